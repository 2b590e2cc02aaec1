/-
  Part 2 of the proof of WatchReplacedP: what the statement's proof uses of the texts in wip/tpl.
-/
import Derived.Test.YtobclmbkdhbnpaaGreatDoorQa1
set_option maxRecDepth 10000
set_option maxHeartbeats 4000000
set_option linter.unusedVariables false
set_option linter.unusedSimpArgs false
namespace Go.Proofs.YtobclmbkdhbnpaaGreatDoor
open Go.RowKit
inductive FillA(pl:List (Nat×Nat))(ev:Operand→Option AV):List AV→List (Nat×Operand)→List AV→Prop
 |nil (cs:List AV):FillA pl ev cs [] cs
 |cons (cs cs' cs'':List AV) (i:Nat) (o:Operand) (ps:List (Nat×Operand)) (x:AV) (off sz:Nat):ev o=some x→pl[i]?=some (off,sz)→FE (CT x)=true→Nat.beq (CT x).length sz=true→Nat.blt 0 sz=true→
     SetAt cs off (CT x) cs'→FillA pl ev cs' ps cs''→FillA pl ev cs ((i,o)::ps) cs''
theorem Rt(off:Nat):∀(vs:List Value) (s:Nat) (us:List Value),(vs.zipIdx s).foldl (fun cs (x:Value×Nat)=>cs.setIfInBounds (off+x.2) x.1) us.toArray=(GH us (off+s) vs).toArray
 |[],_,_=>rfl
 |v::vs,s,us=>by
   simp only[List.zipIdx_cons,List.foldl_cons,List.setIfInBounds_toArray,GH];exact Rt off vs (s+1) (us.set (off+s) v)
theorem FillA.run{pl:List (Nat×Nat)}{ev:Operand→Option AV}{G:Gh}{w:World}{ec:Operand→Value}{place:Nat→Option (Nat×Nat)}{cs:List AV}{ps:List (Nat×Operand)}{cs':List AV}(hf:FillA pl ev cs ps cs')
    (hpl:∀i p,pl[i]?=some p→place i=some p) (he:∀p∈ps,∀av,ev p.2=some av→rep G w av (ec p.2)):∀{us:List Value},AY G w cs us→(∀u∈us,u.oneCell'=true)→
      ∃us',Instr.fill place us.toArray (ps.map fun p=>(p.1,ec p.2))=some us'.toArray∧AY G w cs' us'∧∀u∈us',u.oneCell'=true:=by
 induction hf with
 |nil cs=>intro us h1 h2;exact⟨us,rfl,h1,h2⟩
 |cons cs cs' cs'' i o ps x off sz h1 h2 h3 h4 h5 h6 _ ih=>
   intro us k1 k2;obtain⟨vs,m1,m2⟩:=KV (he (i,o) (by simp) _ h1) h3;obtain⟨q1,q2⟩:=h6.rep k1 m2;have hl:=Nat.eq_of_beq_eq_true h4;have hp:0<sz:=B6 h5;have hvl:=Fx m2;have hne:CT x≠[]:=fun e=>by rw[e]at hl;simp at hl;omega
   rw[if_neg hne]at q2
   obtain⟨us',r1,r2,r3⟩:=ih (fun p hp=>he p (by simp[hp])) q1 (fun u hu=>by
    rcases LT vs us off u hu with e|e
    ·exact k2 u e
    exact J9 m2 h3 u e)
   refine⟨us',?_,r2,r3⟩;simp only[List.map_cons,Instr.fill,hpl i _ h2];rw[if_neg (by simp only[m1,List.size_toArray,Bool.or_eq_true,decide_eq_true_eq,not_or];simp;omega)];rw[←r1,m1]
   congr 1
   have:=Rt off vs 0 us;rw[Nat.add_zero]at this;rw[←this,←Array.foldl_toList];simp
theorem FillA.idx{pl:List (Nat×Nat)}{ev:Operand→Option AV}{cs:List AV}{ps:List (Nat×Operand)}{cs':List AV}(hf:FillA pl ev cs ps cs'):∀p∈ps,∃q,pl[p.1]?=some q:=by
 induction hf with
 |nil=>simp
 |cons cs cs' cs'' i o ps x off sz h1 h2 _ _ _ _ _ ih=>
   intro p hq;rcases List.mem_cons.1 hq with e|e
   ·subst e;exact⟨_,h2⟩
   exact ih p e
section
variable {P:Program}{ev:Operand→Option AV}{h:AH}{R:AV→AH→Prop}{d:Option Tmp}{ty:TypeId}{pos:String}{af:Array Edge}{gd:Option (Nat×Bool)}
theorem WU{T:Nat}{pl:List (Nat×Nat)}{zs:List Value}(hp:Oo P T=some pl)(hz:Mu P T=some zs){place:Nat→Option (Nat×Nat)}{parts:List (Nat×Value)}{cells:List Value}(hall:∀p∈parts,∃q,pl[p.1]?=some q)
    (hf:∀place:Nat→Option (Nat×Nat),(∀i p,pl[i]?=some p→place i=some p)→Instr.fill place zs.toArray parts=some cells.toArray) (w:World):(Instr.build T parts.toArray).run P w= .ok (.agg cells.toArray) w:=by
 refine run_build w T _ cells.toArray ?_;obtain⟨i,z,k1,k2,k3⟩:=P0 hz;unfold Oo at hp;unfold Program.built;rw[k1]
 cases hu:P.underlying T with
 |none=>simp[hu]at hp
 |some dsc=>
   cases dsc<;>try (simp[hu]at hp;done)
   case array n e=>
    cases hi:P.info? e with
    |none=>simp[hu,hi]at hp
    |some ie=>
      simp only[hu,hi,Option.map_some,Option.some.injEq]at hp;simp only[k2,hi,k3];refine hf _ fun i p hi=>?_;subst hp;rw[List.getElem?_map]at hi
      cases hr:(List.range n)[i]? with
      |none=>rw[hr]at hi;cases hi
      |some k=>
        rw[hr]at hi
        have:k=i:=by
         obtain⟨h1,h2⟩:=Ai.1 hr;simp at h2;exact h2.symm
        subst this
        simpa using hi
   case struct fs=>
    simp only[hu]at hp;simp only[k2,hp,k3];exact hf _ fun i p hi=>by simpa using hi
theorem LW{T:TypeId}{l:List (Nat×Operand)}{pl:List (Nat×Nat)}{row cs:List AV}[hp:Plc P T pl][hz:Zer P T row](hf:FillA pl ev row l cs)(hR:R (.agg cs) h):AStep P ⟨d, .build T l.toArray,ty,pos,af,gd⟩ ev h R:=by
 refine Cv (fun _ G w ec _ he=>?_) hR;obtain⟨zs,hz1,hrow,hz2⟩:=hz.eq;have hrep:AY G w row zs:=hrow ▸ Oz zs;have hev:∀p∈l,∀av,ev p.2=some av→rep G w av (ec p.2):=fun p hp av hav=>he p.2 (by simp only[Op.operands];simp;exact⟨p.1,hp⟩) av hav;obtain⟨us',k1,k2,k3⟩:=hf.run (place:=fun i=>pl[i]?) (fun i p h=>h) hev hrep (List.all_eq_true.1 hz2)
 have hrun:=WU (P:=P) hp.eq hz1 (place:=fun i=>pl[i]?) (parts:=l.map fun p=>(p.1,ec p.2)) (cells:=us') (fun p hp=>by
  obtain⟨q,hq,rfl⟩:=List.mem_map.1 hp
  exact hf.idx q hq) (fun place hpl=>by
  obtain⟨us'',m1,m2,_⟩:=hf.run (place:=place) hpl hev hrep (List.all_eq_true.1 hz2)
  have key:∀(ps:List (Nat×Value)) (cells:Array Value),(∀p∈ps,∃q,pl[p.1]?=some q)→Instr.fill place cells ps=Instr.fill (fun i=>pl[i]?) cells ps:=by
   intro ps
   induction ps with
   |nil=>intro cells _;rfl
   |cons p ps ih=>
     intro cells hq;obtain⟨q,hq1⟩:=hq p (by simp);obtain⟨i,v⟩:=p;simp only[Instr.fill,hpl i q hq1,hq1];split
     ·rfl
     exact ih _ (fun p hp=>hq p (by simp[hp]))
  rw[key _ _ (fun p hp=>by
   obtain⟨q,hq,rfl⟩:=List.mem_map.1 hp
   exact hf.idx q hq)]
  exact k1) w
 refine⟨.agg us'.toArray,?_,by simp only[rep];exact⟨us',rfl,k2⟩⟩;simp only[execOp,Sem.run_bind,List.map_toArray,hrun,Result.andThen_ok,Sem.run_pure]
end
def FlatR(St:Nat→Nat→Prop)(w:World)(sz:Nat)(rows:List (List AV))(us:List Value):Prop:=
 us.length=rows.length * sz∧(∀r∈rows,r.length=sz)∧(∀u∈us,u.oneCell'=true)∧∀(i:Nat) (r:List AV) (k:Nat) (x:AV),rows[i]?=some r→r[k]?=some x→∃u,us[i * sz+k]?=some u∧Ak St w x u
theorem FlatR.nil(St:Nat→Nat→Prop)(w:World)(sz:Nat):FlatR St w sz [] []:=⟨by simp,by simp,by simp,by simp⟩
theorem FlatR.append{St:Nat→Nat→Prop}{w:World}{sz:Nat}{rows rows':List (List AV)}{us us':List Value}(h:FlatR St w sz rows us)(h':FlatR St w sz rows' us'):FlatR St w sz (rows++rows') (us++us'):=by
 obtain⟨a1,a2,a3,a4⟩:=h;obtain⟨b1,b2,b3,b4⟩:=h';refine⟨by simp[a1,b1,Nat.add_mul],?_,?_,?_⟩
 ·intro r hr;rcases List.mem_append.1 hr with e|e
  ·exact a2 r e
  exact b2 r e
 ·intro r hr;rcases List.mem_append.1 hr with e|e
  ·exact a3 r e
  exact b3 r e
 intro i r k x hi hk;rcases Nat.lt_or_ge i rows.length with hlt|hge
 ·rw[Ca hlt]at hi;obtain⟨u,h1,h2⟩:=a4 i r k x hi hk;exact⟨u,by rw[Ca (Ai.1 h1).1];exact h1,h2⟩
 rw[DP hge]at hi;obtain⟨u,h1,h2⟩:=b4 _ r k x hi hk;refine⟨u,?_,h2⟩
 have e:i * sz+k=us.length+((i - rows.length) * sz+k):=by
  rw[a1,Nat.sub_mul];have:rows.length * sz≤i * sz:=Nat.mul_le_mul_right sz hge;omega
 rw[e,DP (by omega)]
 simpa using h1
theorem FlatR.mono{St St':Nat→Nat→Prop}{w w':World}{sz:Nat}{rows:List (List AV)}{us:List Value}(h:FlatR St w sz rows us)(hst:∀b o,St b o→St' b o∧w'.cell? ⟨b,o,none⟩=w.cell? ⟨b,o,none⟩):FlatR St' w' sz rows us:=
 ⟨h.1,h.2.1,h.2.2.1,fun i r k x hi hk=>let ⟨u,h1,h2⟩:=h.2.2.2 i r k x hi hk;⟨u,h1,Fw hst x u h2⟩⟩
theorem FlatR.froR{St:Nat→Nat→Prop}{w:World}{sz b off:Nat}{rows:List (List AV)}{us:List Value}(h:FlatR St w sz rows us)(hc:∀j u,us[j]?=some u→St b (off+j)∧w.cell? ⟨b,off+j,none⟩=some u):froR St w b sz rows off:=by
 refine LQ fun i r hi=>⟨h.2.1 r (Aj hi),KR fun k x hk=>?_⟩;obtain⟨u,h1,h2⟩:=h.2.2.2 i r k x hi hk;obtain⟨c1,c2⟩:=hc _ u h1;rw[←Nat.add_assoc]at c1 c2;exact⟨c1,u,c2,h.2.2.1 u (Aj h1),h2⟩
theorem WV{St:Nat→Nat→Prop}{w:World}{b:Nat}{r:List AV}{off:Nat}(hc:Cu St w b r off):∃us:List Value,us.length=r.length∧Bc St w r us∧(∀u∈us,u.oneCell'=true)∧∀j u,us[j]?=some u→w.cell? ⟨b,off+j,none⟩=some u:=by
 obtain⟨us,h1,h2,h3⟩:=Ov hc;exact⟨us,LS h1,h1,h2,h3⟩
theorem NE{St:Nat→Nat→Prop}{w:World}:∀{xs:List AV} {ys:List Value},Bc St w xs ys→∀{i:Nat} {x:AV},xs[i]?=some x→∃y,ys[i]?=some y∧Ak St w x y
 |[],_,_,i,x,hi=>by simp at hi
 |x::xs,_,h,i,x',hi=>by
   simp only[Bc]at h;obtain⟨z,zs,rfl,h2,h3⟩:=h
   cases i with
   |zero=>simp at hi;subst hi;exact⟨z,by simp,h2⟩
   |succ i=>simp only[List.getElem?_cons_succ]at hi ⊢;exact NE h3 hi
theorem FlatR.one{St:Nat→Nat→Prop}{w:World}{sz:Nat}{r:List AV}{us:List Value}(hl:r.length=sz)(hf:Bc St w r us)(h1:∀u∈us,u.oneCell'=true):FlatR St w sz [r] us:=by
 refine⟨by simp[LS hf,hl],by simp[hl],h1,fun i r' k x hi hk=>?_⟩
 cases i with
 |zero=>simp at hi;subst hi;obtain⟨y,h1,h2⟩:=NE hf hk;exact⟨y,by simpa using h1,h2⟩
 |succ i=>simp at hi
theorem Ru{St:Nat→Nat→Prop}{w:World}{b sz:Nat}:∀{rs:List (List AV)} {off:Nat},froR St w b sz rs off→∃us:List Value,FlatR St w sz rs us∧∀j u,us[j]?=some u→w.cell? ⟨b,off+j,none⟩=some u
 |[],_,_=>⟨[],FlatR.nil _ _ _,by simp⟩
 |r::rs,off,h=>by
   simp only[Go.Proofs.YtobclmbkdhbnpaaGreatDoor.froR]at h;obtain⟨us,a1,a2,a3,a4⟩:=WV h.1.2;obtain⟨vs,b1,b2⟩:=Ru h.2;refine⟨us++vs,FlatR.append (FlatR.one h.1.1 a2 a3) b1,fun j u hj=>?_⟩;rcases Nat.lt_or_ge j us.length with hlt|hge
   ·rw[Ca hlt]at hj;exact a4 j u hj
   rw[DP hge]at hj;have:=b2 _ u hj
   rwa [show off+sz+(j - us.length)=off+j by rw[a1,h.1.1]at hge ⊢;omega]at this
theorem KW{St:Nat→Nat→Prop}{w:World}{sz:Nat}{rows:List (List AV)}{y:Value}(h:Ak St w (.sl sz rows none) y):∃A cap us,y= .slice A rows.length cap∧rows.length≤cap∧cap≤maxLen∧FlatR St w sz rows us∧
    (rows≠[]→∃b off,A=some ⟨b,off,none⟩∧∀j u,us[j]?=some u→w.cell? ⟨b,off+j,none⟩=some u):=by
 simp only[Ak]at h;obtain⟨_,A,cap,h1,h2,h3,h4⟩:=h;rcases h4 with h4|⟨b,off,h5,h6⟩
 ·subst h4;exact⟨A,cap,[],h1,h2,h3,FlatR.nil _ _ _,fun h=>absurd rfl h⟩
 obtain⟨us,k1,k2⟩:=Ru h6;exact⟨A,cap,us,h1,h2,h3,k1,fun _=>⟨b,off,h5,k2⟩⟩
mutual
def Gs:AV→Bool
 | .v _=>true
 | .agg cs=>JA cs
 | .tup cs=>JA cs
 | .sl _ _ none=>true
 | .sl _ _ (some _)=>false
 | .fp _=>true
 | .bp _ _=>false
 | .bs _ _ _ _ _=>false
 | .fn _ caps=>JA caps
 | .any=>true
def JA:List AV→Bool
 |[]=>true
 |x::xs=>Gs x&&JA xs
end
mutual
theorem Rv:∀(x:AV),Gs x=true→Cl x=x
 | .v _,_=>by simp only[Cl]
 | .agg cs,h=>by simp only[Gs]at h;simp only[Cl,KX cs h]
 | .tup cs,h=>by simp only[Gs]at h;simp only[Cl,KX cs h]
 | .sl _ _ none,_=>by simp only[Cl]
 | .sl _ _ (some _),h=>by simp[Gs]at h
 | .fp _,_=>by simp only[Cl]
 | .bp _ _,h=>by simp[Gs]at h
 | .bs _ _ _ _ _,h=>by simp[Gs]at h
 | .fn _ caps,h=>by simp only[Gs]at h;simp only[Cl,KX caps h]
 | .any,_=>by simp only[Cl]
theorem KX:∀(xs:List AV),JA xs=true→Ex xs=xs
 |[],_=>by simp only[Ex]
 |x::xs,h=>by
   simp only[JA,Bool.and_eq_true]at h;simp only[Ex,Rv x h.1,KX xs h.2]
end
inductive DenseA(sz:Nat)(ev:Operand→Option AV):Nat→List (Nat×Operand)→List (List AV)→Prop
 |nil (i:Nat):DenseA sz ev i [] []
 |cons (i:Nat) (o:Operand) (ps:List (Nat×Operand)) (x:AV) (rows:List (List AV)):ev o=some x→FE (CT x)=true→Nat.beq (CT x).length sz=true→JA (CT x)=true→DenseA sz ev (i+1) ps rows→DenseA sz ev i ((i,o)::ps) (CT x::rows)
 |consE (i:Nat) (o:Operand) (ps:List (Nat×Operand)) (x:AV) (rows:List (List AV)):ev o=some x→FE (CT x)=true→Nat.beq (CT x).length sz=true→DenseA sz ev (i+1) ps rows→DenseA sz ev i ((i,o)::ps) (Ex (CT x)::rows)
def RowsV(St:Nat→Nat→Prop)(w:World)(sz:Nat):List (List AV)→List Value→Prop
 |[],vs=>vs=[]
 |r::rs,vs=>∃v vs',vs=v::vs'∧r.length=sz∧(∃us:List Value,v.cells=us.toArray∧Bc St w r us∧∀u∈us,u.oneCell'=true)∧RowsV St w sz rs vs'
theorem Rw:∀(xs:List AV),(Ex xs).length=xs.length
 |[]=>rfl
 |x::xs=>by simp only[Ex,List.length_cons,Rw xs]
theorem DenseA.vals{sz:Nat}{ev:Operand→Option AV}{G:Gh}{w:World}{ec:Operand→Value}{i:Nat}{ps:List (Nat×Operand)}{rows:List (List AV)}(hd:DenseA sz ev i ps rows)(he:∀p∈ps,∀av,ev p.2=some av→rep G w av (ec p.2)):
    ∃vs,RowsV G.St w sz rows vs∧ps.map (fun p=>(p.1,ec p.2))=(vs.zipIdx i).map (fun x=>(x.2,x.1))∧vs.length=rows.length:=by
 induction hd with
 |nil i=>exact⟨[],by simp only[RowsV],rfl,rfl⟩
 |cons i o ps x rows h1 h2 h3 h4 _ ih=>
   obtain⟨vs,k1,k2,k3⟩:=ih (fun p hp=>he p (by simp[hp]));obtain⟨us,m1,m2⟩:=KV (he (i,o) (by simp) _ h1) h2;refine⟨ec o::vs,?_,by simp[k2],by simp[k3]⟩;simp only[RowsV];have:=Jf _ _ m2;rw[KX _ h4]at this;exact⟨_,_,rfl,Nat.eq_of_beq_eq_true h3,⟨us,m1,this,J9 m2 h2⟩,k1⟩
 |consE i o ps x rows h1 h2 h3 _ ih=>
   obtain⟨vs,k1,k2,k3⟩:=ih (fun p hp=>he p (by simp[hp]));obtain⟨us,m1,m2⟩:=KV (he (i,o) (by simp) _ h1) h2;refine⟨ec o::vs,?_,by simp[k2],by simp[k3]⟩;simp only[RowsV];exact⟨_,_,rfl,by rw[Rw];exact Nat.eq_of_beq_eq_true h3,⟨us,m1,Jf _ _ m2,J9 m2 h2⟩,k1⟩
theorem RowsV.sizes{St:Nat→Nat→Prop}{w:World}{sz:Nat}:∀{rows:List (List AV)} {vs:List Value},RowsV St w sz rows vs→(∀v∈vs,v.cells.size=sz)∧vs.length=rows.length
 |[],_,h=>by simp only[RowsV]at h;subst h;simp
 |r::rs,_,h=>by
   simp only[RowsV]at h;obtain⟨v,vs,rfl,h1,⟨us,h2,h3,_⟩,h4⟩:=h;obtain⟨k1,k2⟩:=RowsV.sizes h4;refine⟨?_,by simp[k2]⟩;intro y hy;rcases List.mem_cons.1 hy with e|e
   ·rw[e,h2];simp[LS h3,h1]
   exact k1 y e
theorem RowsV.get{St:Nat→Nat→Prop}{w:World}{sz:Nat}:∀{rows:List (List AV)} {vs:List Value},RowsV St w sz rows vs→∀{i:Nat} {r:List AV},rows[i]?=some r→r.length=sz∧∃v us,vs[i]?=some v∧v.cells=List.toArray us∧Bc St w r us∧∀u∈us,u.oneCell'=true
 |[],_,_,i,r,hi=>by simp at hi
 |r::rs,_,h,i,r',hi=>by
   simp only[RowsV]at h;obtain⟨v,vs,rfl,h1,⟨us,h2,h3,h3'⟩,h4⟩:=h
   cases i with
   |zero=>simp at hi;subst hi;exact⟨h1,v,us,by simp,h2,h3,h3'⟩
   |succ i=>simp only[List.getElem?_cons_succ]at hi ⊢;exact RowsV.get h4 hi
theorem RowsV.fill{St:Nat→Nat→Prop}{w:World}{sz:Nat}{rows:List (List AV)}{vs:List Value}(h:RowsV St w sz rows vs)(hs:0<sz)(cells:Array Value)(hc:cells.size=rows.length * sz):
    ∃us:List Value,Instr.fill (fun i=>some (i * sz,sz)) cells ((vs.zipIdx 0).map fun x=>(x.2,x.1))=some us.toArray∧FlatR St w sz rows us:=by
 obtain⟨k1,k2⟩:=h.sizes;obtain⟨r,h1,h2,h3⟩:=Great.fill_dense hs vs 0 cells k1 (by rw[Nat.zero_add,k2,hc];exact Av _)
 have key:∀(i:Nat) (row:List AV) (k:Nat),rows[i]?=some row→k<sz→∃us:List Value,Bc St w row us∧(∀u∈us,u.oneCell'=true)∧r[i * sz+k]?=us[k]?:=by
  intro i row k hi hk;obtain⟨q1,v,us,q2,q3,q4,q5⟩:=h.get hi;refine⟨us,q4,q5,?_⟩;have hilt:i<vs.length:=(Ai.1 q2).1;have hle:(i+1) * sz≤vs.length * sz:=Nat.mul_le_mul_right sz hilt;rw[Nat.add_mul]at hle;rw[h3,if_pos ⟨by simp,by rw[Nat.zero_add];omega⟩];have e1:(i * sz+k) / sz=i:=by rw[Nat.add_comm,Nat.mul_comm,Nat.add_mul_div_left _ _ hs,Nat.div_eq_of_lt hk,Nat.zero_add]
  have e2:(i * sz+k) % sz=k:=by rw[Nat.add_comm,Nat.mul_comm,Nat.add_mul_mod_self_left,Nat.mod_eq_of_lt hk]
  rw[e1,e2,Nat.sub_zero,q2,Option.bind_some,q3];simp
 refine⟨r.toList,by rw[h1],?_,?_,?_,?_⟩
 ·rw[Array.length_toList,h2,hc]
 ·intro row hrow;obtain⟨i,hi⟩:=List.mem_iff_getElem?.1 hrow;exact(h.get hi).1
 ·intro u hu;obtain⟨j,hj⟩:=List.mem_iff_getElem?.1 hu
  have hjl:j<rows.length * sz:=by
   have:=(Ai.1 hj).1
   rwa [Array.length_toList,h2,hc]at this
  have hq:j / sz<rows.length:=(Nat.div_lt_iff_lt_mul hs).2 hjl;obtain⟨us,_,m2,m3⟩:=key (j / sz) _ (j % sz) (BM hq) (Nat.mod_lt _ hs);have e:j / sz * sz+j % sz=j:=by have:=Nat.div_add_mod j sz;rw[Nat.mul_comm]at this;exact this
  rw[e]at m3;rw[Array.getElem?_toList,m3]at hj;exact m2 u (Aj hj)
 intro i row k x hi hk
 have hkl:k<sz:=by
  have:=(Ai.1 hk).1
  rwa [(h.get hi).1]at this
 obtain⟨us,m1,_,m3⟩:=key i row k hi hkl;obtain⟨y,n1,n2⟩:=NE m1 hk;exact⟨y,by rw[Array.getElem?_toList,m3];exact n1,n2⟩
theorem WW{E:Env}{G:Gh}{h:AH}{w:World}(hr:HRel E G h w){sz:Nat}{rows:List (List AV)}{us:List Value}{T:TypeId}(hf:FlatR G.St w sz rows us)(hlen:rows.length≤maxLen):
    ∃G',HRel E G' h (w.alloc (.cells us.toArray T))∧Ext G w G' (w.alloc (.cells us.toArray T))∧Ak G'.St (w.alloc (.cells us.toArray T)) (.sl sz rows none) (.slice (some ⟨w.heap.size,0,none⟩) rows.length rows.length)∧
     (∀o,G'.St w.heap.size o→o<us.length)∧G'.bx=G.bx∧G'.tk=G.tk:=by
 obtain⟨k1,k2⟩:=hr.grow (w':=w.alloc (.cells us.toArray T)) ((Below.refl _ _).alloc (Av _) _) (fun b o=>b=w.heap.size∧o<us.length) (fun b o hb=>by simp[hb.1]);refine⟨_,k1,k2,?_,?_,rfl,rfl⟩
 ·simp only[Ak];refine⟨trivial,_,_,rfl,Av _,hlen,?_⟩;by_cases h0:rows=[]
  ·exact .inl h0
  refine .inr ⟨w.heap.size,0,rfl,(hf.mono k2.st).froR fun j u hj=>?_⟩;rw[Nat.zero_add];refine⟨.inr ⟨rfl,(Ai.1 hj).1⟩,?_⟩;simp only[World.cell?,Oy]
  simpa using hj
 rintro o (hs|hs)
 ·have:=hr.stlt _ _ hs;omega
 exact hs.2
section
variable {P:Program}{ev:Operand→Option AV}{h:AH}{R:AV→AH→Prop}{d:Option Tmp}{ty:TypeId}{pos:String}{af:Array Edge}{gd:Option (Nat×Bool)}
theorem WX{T len E sz bytes:Nat}{l:List (Nat×Operand)}{rows:List (List AV)}(hE:Jh P T=some (E,sz,bytes))(hd:DenseA sz ev 0 l rows)(hl:Nat.beq l.length len=true)(hsm:Nat.ble len 1000=true)(hpos:Nat.blt 0 len=true)(hsz:Nat.ble sz 100=true)
    {Ev:Env} {G:Gh} {w:World} {ec:Operand→Value} (_hr:HRel Ev G h w) (he:∀x∈(Op.buildSlice T len l.toArray).operands,∀av,ev x=some av→rep G w av (ec x)):
    ∃us:List Value,FlatR G.St w sz rows us∧rows.length=len∧len≤1000∧(Instr.buildSlice T len (l.toArray.map fun p=>(p.1,ec p.2))).run P w= .ok (.slice (some ⟨w.heap.size,0,none⟩) len len) (w.alloc (.cells us.toArray E)):=by
 obtain⟨hu,inf,z,hinf,hz,hzs,hs,hby,hp⟩:=Ey hE;have hev:∀p∈l,∀av,ev p.2=some av→rep G w av (ec p.2):=fun p hp av hav=>he p.2 (by simp only[Op.operands];simp;exact⟨p.1,hp⟩) av hav;obtain⟨vs,k1,k2,k3⟩:=hd.vals hev;have hl':l.length=len:=Nat.eq_of_beq_eq_true hl;have hsm':len≤1000:=B6 hsm;have hpos':0<len:=B6 hpos;have hsz':sz≤100:=B6 hsz
 have hrl:rows.length=len:=by
  have:=congrArg List.length k2;simp at this;omega
 obtain⟨us,m1,m2⟩:=k1.fill hp ((Array.range (len * inf.size)).map (z.cells[· % z.cells.size]!)) (by simp[hs,hrl]);refine⟨us,m2,hrl,hsm',?_⟩
 refine run_buildSlice w T E len _ us.toArray inf z hu hinf hz (by
  rw[hs];have:len * sz≤1000 * 100:=Nat.mul_le_mul hsm' hsz'
  omega) (by rw[hs];exact Nat.ne_of_gt (Nat.mul_pos hpos' hp)) ?_
 rw[hs]at m1 ⊢;simp only[List.map_toArray];rw[k2];exact m1
theorem LX{T:TypeId}{len E sz bytes:Nat}{l:List (Nat×Operand)}{rows:List (List AV)}[hE:Elm P T E sz bytes](hd:DenseA sz ev 0 l rows)(hl:Nat.beq l.length len=true)(hsm:Nat.ble len 1000=true)(hpos:Nat.blt 0 len=true)(hsz:Nat.ble sz 100=true)(hR:R (.sl sz rows none) h):
    AStep P ⟨d, .buildSlice T len l.toArray,ty,pos,af,gd⟩ ev h R:=by
 intro E' G w ec hr he;obtain⟨us,m2,hrl,hsm',hrun⟩:=WX hE.eq hd hl hsm hpos hsz hr he;obtain⟨G',q1,q2,q3,_⟩:=WW (T:=E) hr m2 (by rw[hrl];unfold maxLen;omega);simp only[execOp,Sem.run_bind,hrun,Result.andThen_ok,Sem.run_pure];refine⟨_,_,G',hR,q1,q2,?_⟩;simp only[rep];rw[hrl]at q3;exact q3
theorem HRel.addTok{E:Env}{G:Gh}{w:World}(hr:HRel E G h w){T sz n:Nat}{u:Value}{rows:List (List AV)}(ht:Rb E.w0.heap.size G w n u T sz rows)(hbx:∀b,u.ownBlock=some b→b∉G.bx)(htk:∀(g n':Nat) (u':Value),G.tk[g]?=some (n',u')→∀b,u.ownBlock=some b→u'.ownBlock≠some b):
    HRel E ⟨G.St,G.bx,G.tk++[(n,u)]⟩ ⟨h.bx,h.tk++[(T,sz,rows)]⟩ w∧Ext G w ⟨G.St,G.bx,G.tk++[(n,u)]⟩ w:=by
 have he:Ext G w ⟨G.St,G.bx,G.tk++[(n,u)]⟩ w:=⟨fun _ _ h=>⟨h,rfl⟩,fun _ _ h=>h,fun g n' u' hg=>⟨n',u',by rw[Ca (Ai.1 hg).1];exact hg,Av _,fun _=>rfl⟩⟩
 have split:∀(g n':Nat) (u':Value),(G.tk++[(n,u)])[g]?=some (n',u')→G.tk[g]?=some (n',u')∨(g=G.tk.length∧n'=n∧u'=u):=by
  intro g n' u' hg;rcases Nat.lt_or_ge g G.tk.length with hlt|hge
  ·rw[Ca hlt]at hg;exact .inl hg
  rw[DP hge]at hg;have h0:g - G.tk.length=0:=by have:=(Ai.1 hg).1;simp at this;omega
  rw[h0]at hg;simp at hg;exact .inr ⟨by omega,hg.1.symm,hg.2.symm⟩
 refine⟨⟨hr.inpre,hr.kept,hr.stlt,hr.stnew,hr.bxlen,hr.bxnd,hr.bxst,hr.bxown,?_,by simp[hr.tklen],?_,?_,?_⟩,he⟩
 ·intro i b row hi hrow;obtain⟨us,T',h1,h2,h3⟩:=hr.box i b row hi hrow;exact⟨us,T',h1,Dq he _ _ h2,h3⟩
 ·intro g n' u' T' sz' rows' hg ht';rcases split g n' u' hg with h1|⟨h1,h2,h3⟩
  ·have hlt:g<h.tk.length:=by rw[←hr.tklen];exact(Ai.1 h1).1
   simp only at ht';rw[Ca hlt]at ht';exact hr.tok g n' u' T' sz' rows' h1 ht'
  subst h1;subst h2;subst h3;simp only[hr.tklen]at ht';simp at ht';obtain⟨rfl,rfl,rfl⟩:=ht';exact ht
 ·intro g n' u' hg b hb;rcases split g n' u' hg with h1|⟨h1,h2,h3⟩
  ·exact hr.tkbx g n' u' h1 b hb
  subst h3;exact hbx b hb
 intro g g' n1 n2 u1 u2 hg hg' hne b hb;rcases split g n1 u1 hg with h1|⟨h1,h2,h3⟩
 ·rcases split g' n2 u2 hg' with k1|⟨k1,k2,k3⟩
  ·exact hr.tknd g g' n1 n2 u1 u2 h1 k1 hne b hb
  subst k3;exact fun e=>htk g n1 u1 h1 b e hb
 rcases split g' n2 u2 hg' with k1|⟨k1,k2,k3⟩
 ·subst h3;exact htk g' n2 u2 k1 b hb
 exact absurd (h1.trans k1.symm) hne
theorem Rx{E:Env}{G:Gh}{w:World}(hr:HRel E G h w){T T' sz bytes:Nat}(hE:Jh P T=some (T',sz,bytes))(hby:bytes≤100000){g:Nat}{rows new:List (List AV)}{y s:Value}(hg:h.tk[g]?=some (T',sz,rows))
    (hs:rep G w (.sl sz rows (some g)) s) (hy:Ak G.St w (.sl sz new none) y) (hsm:rows.length+new.length≤1000000) (rt:TypeId):
    ∃v' w' G',(Builtin.append_ #[T,T] rt #[s,y]).run P w= .ok v' w'∧HRel E G' ⟨h.bx,h.tk.set g (T',sz,rows++new)⟩ w'∧Ext G w G' w'∧rep G' w' (.sl sz (rows++new) (some g)) v':=by
 obtain⟨hu,inf,z,hinf,hz,hzs,hsz,hbts,hp⟩:=Ey hE;simp only[rep]at hs;obtain⟨hs0,n,u,hn1,hn2,hn3⟩:=hs;obtain⟨tn,⟨xs,town⟩,tsp⟩:=hr.tok g n u T' sz rows hn1 hg;have hsu:s=u:=hn3 tn.symm;subst hsu;subst tn;obtain⟨A,cap,vs,e1,e2,e3,e4,e5⟩:=KW hy;obtain⟨A0,cap0,us0,f1,f2,f3,f4,f5⟩:=KW hs0
 have hb0:E.w0.heap.size≤w.heap.size:=hr.kept.size
 -- the cells of what is there are xs
 have hxs:FlatR G.St w sz rows xs:=by
  by_cases h0:rows=[]
  ·subst h0;have:xs=[]:=DE (by simpa using town.1);subst this;exact FlatR.nil _ _ _
  obtain⟨b,off,q1,q2⟩:=f5 h0
  have:us0=xs:=by
   refine List.ext_getElem? fun j=>?_;rcases Nat.lt_or_ge j (rows.length * sz)with hj|hj
   ·have hj1:j<us0.length:=by rw[f4.1];exact hj
    have hj2:j<xs.length:=by rw[town.1];exact hj
    have a1:=q2 j _ (BM hj1);rcases town.2 with⟨c1,c2⟩|⟨gb,cp,cur,c1,c2,c3,c4,c5,c6,c7⟩
    ·exact absurd c2 (by simp[h0])
    rw[f1,q1]at c1;injection c1 with c1 c1' c1'';injection c1 with c1;injection c1 with c1 c1o;subst c1;subst c1o;have a2:w.cell? ⟨b,0+j,none⟩=cur[j]?:=by simp only[World.cell?,c3];simp
    rw[a2]at a1;rw[BM hj1,←a1,←c7,List.getElem?_take,if_pos hj,Array.getElem?_toList]
   rw[List.getElem?_eq_none (by rw[f4.1];exact hj),List.getElem?_eq_none (by rw[town.1];exact hj)]
  rw[←this];exact f4
 -- the run
 have hrun:∃v' w',(Builtin.append_ #[T,T] rt #[s,y]).run P w= .ok v' w'∧w'.ownsRow E.w0.heap.size T' sz v' (rows.length+new.length) (xs++vs)∧w.grownBy w' s.ownBlock∧(v'.ownBlock=s.ownBlock∨(v'.ownBlock=some w.heap.size∧∀k,k<w.heap.size→w'.heap[k]?=w.heap[k]?)):=by
  by_cases h0:new=[]
  ·subst h0;have hv:vs=[]:=DE (by simpa using e4.1);subst hv;rcases A with _|ad
   ·refine⟨s,w,?_,by simpa using town,World.grownBy.refl w _, .inl rfl⟩;rw[e1];rcases town.2 with⟨c1,c2⟩|⟨gb,cp,cur,c1,c2,c3,c4,c5,c6,c7⟩
    ·simp[Builtin.append_,run_underlying hu,sizeOf,typeInfo,hinf,Builtin.lenOf,Builtin.firstCells,c1]
    simp[Builtin.append_,run_underlying hu,sizeOf,typeInfo,hinf,Builtin.lenOf,Builtin.firstCells,c1,c4,storeCells]
   rw[e1]
   obtain⟨v',w',r1,r2,r3,r4,r5⟩:=run_append_own_at (P:=P) w E.w0.heap.size T rt T' inf z sz bytes hu hinf hz hsz hbts hzs hp s rows.length xs town ad 0 cap [] (by simp) (by simp) (by simp) (by unfold maxLen;omega) (by
    have:(rows.length+0) * bytes≤1000000 * 100000:=Nat.mul_le_mul (by omega) hby
    omega) hb0
   refine⟨v',w',r1,by simpa using r2,r3, .inl ?_⟩;rcases town.2 with⟨c1,c2⟩|⟨gb,cp,cur,c1,c2,c3,c4,c5,c6,c7⟩
   ·rw[r4.2 ⟨c1,rfl⟩,c1]
   have hroom:=run_append_room (P:=P) w T rt T' inf hu hinf gb rows.length cp cur c3 ad 0 cap [] (by simp) (by simp) (by simp) (by omega) (by rw[c6,hsz];simp;exact Nat.mul_le_mul_right _ c4);rw[←c1,r1]at hroom;injection hroom with e _;rw[e,c1];simp[Value.ownBlock]
  obtain⟨b,off,q1,q2⟩:=e5 h0;subst q1;rw[e1];have hnl:0<new.length:=by cases new with|nil=>exact absurd rfl h0|cons=>simp
  have hnews:∀j u,vs[j]?=some u→w.cell? ((⟨b,off,none⟩:Addr).add j)=some u:=fun j u hj=>by rw[Addr.add_mid];exact q2 j u hj
  have hbt:(rows.length+new.length) * bytes≤140737488355328:=by
   have:(rows.length+new.length) * bytes≤1000000 * 100000:=Nat.mul_le_mul hsm hby;omega
  obtain⟨v',w',r1,r2,r3,r4,r5⟩:=run_append_own_at (P:=P) w E.w0.heap.size T rt T' inf z sz bytes hu hinf hz hsz hbts hzs hp s rows.length xs town ⟨b,off,none⟩ new.length cap vs (by rw[e4.1]) hnews e4.2.2.1 (by unfold maxLen;omega) hbt hb0;refine⟨v',w',r1,r2,r3,?_⟩;rcases town.2 with⟨c1,c2⟩|⟨gb,cp,cur,c1,c2,c3,c4,c5,c6,c7⟩
  ·rcases r5 with r5|r5
   ·exact .inl r5
   exact .inr ⟨r5,fun k hk=>r3.block k hk (by rw[c1];simp[Value.ownBlock])⟩
  by_cases hroom:rows.length+new.length≤cp
  ·refine .inl ?_;have hh:=run_append_room (P:=P) w T rt T' inf hu hinf gb rows.length cp cur c3 ⟨b,off,none⟩ new.length cap vs (by rw[e4.1,hsz]) hnews e4.2.2.1 hroom (by rw[e4.1,c6,hsz,←Nat.add_mul];exact Nat.mul_le_mul_right _ hroom);rw[←c1,r1]at hh;injection hh with e _;rw[e,c1];simp[Value.ownBlock]
  refine .inr ?_;have holds:∀j u,xs[j]?=some u→w.cell? ((⟨gb,0,none⟩:Addr).add j)=some u:=town.cells (g:=gb) (by rw[c1];rfl);have hh:=run_append_grow (P:=P) w T rt T' inf z hu hinf hz ⟨gb,0,none⟩ rows.length cp xs (by rw[town.1,hsz]) holds ⟨b,off,none⟩ new.length cap vs (by rw[e4.1,hsz]) hnews (by omega) (by omega) (growslice_fits (by omega) (by rw[hbts];exact hbt));rw[←c1,r1]at hh;injection hh with ea eb;refine⟨by rw[ea];simp[Value.ownBlock],fun k hk=>?_⟩;rw[eb];exact Below.heap_alloc w.drew _ k hk
 obtain⟨v',w',r1,r2,r3,r5⟩:=hrun
 -- what stays now
 refine⟨v',w',⟨fun b o=>G.St b o∨(v'.ownBlock=some b∧o<(rows.length+new.length) * sz),G.bx,G.tk.set g (rows.length+new.length,v')⟩,r1,?_⟩;have hvlt:=World.ownsRow.lt r2;have hold:∀b,s.ownBlock=some b→E.w0.heap.size≤b∧b<w.heap.size:=fun b hb=>hr.toklt hn1 hb
 have hcells:∀b o u,v'.ownBlock=some b→(xs++vs)[o]?=some u→w'.cell? ⟨b,o,none⟩=some u:=by
  intro b o u hb ho;rcases r2.2 with⟨c1,c2⟩|⟨gb,cp,cur,c1,c2,c3,c4,c5,c6,c7⟩
  ·rw[c1]at hb;simp[Value.ownBlock]at hb
  rw[c1]at hb;simp[Value.ownBlock]at hb;subst hb
  have hlt:o<(rows.length+new.length) * sz:=by
   have:=(Ai.1 ho).1
   rwa [r2.1]at this
  simp only[World.cell?,c3];rw[←c7,List.getElem?_take,if_pos hlt,Array.getElem?_toList]at ho
  simpa using ho
 have hst:∀b o,G.St b o→(G.St b o∨(v'.ownBlock=some b∧o<(rows.length+new.length) * sz))∧w'.cell? ⟨b,o,none⟩=w.cell? ⟨b,o,none⟩:=by
  intro b o hb;refine⟨.inl hb,?_⟩;by_cases hbs:s.ownBlock=some b
  ·have hlt:o<rows.length * sz:=Nat.lt_of_not_le fun hle=>tsp b hbs o hle hb;rcases r5 with r5|⟨r5,r6⟩
   ·have ho:o<xs.length:=by rw[town.1];exact hlt
    have c:=hcells b o xs[o] (by rw[r5];exact hbs) (by rw[Ca ho];exact BM ho);rw[c];rcases town.2 with⟨c1,c2⟩|⟨gb,cp,cur,c1,c2,c3,c4,c5,c6,c7⟩
    ·rw[c1]at hbs;simp[Value.ownBlock]at hbs
    rw[c1]at hbs;simp[Value.ownBlock]at hbs;subst hbs;have hx:xs[o]?=cur[o]?:=by rw[←c7,List.getElem?_take,if_pos hlt,Array.getElem?_toList]
    rw[BM ho]at hx;simp only[World.cell?,c3]
    simpa using hx
   exact World.cell?_of_block (w:=w) (a:=⟨b,o,none⟩) (r6 b (hold b hbs).2)
  exact World.cell?_of_block (w:=w) (a:=⟨b,o,none⟩) (r3.block b (hr.stlt b o hb) (fun e=>hbs e.symm))
 have hgl:g<G.tk.length:=(Ai.1 hn1).1
 have hext:Ext G w ⟨fun b o=>G.St b o∨(v'.ownBlock=some b∧o<(rows.length+new.length) * sz),G.bx,G.tk.set g (rows.length+new.length,v')⟩ w':=by
  refine⟨hst,fun _ _ h=>h,fun g' n' u' hg'=>?_⟩;by_cases hgg:g=g'
  ·subst hgg;rw[hn1]at hg';injection hg' with hg';injection hg' with e1' e2';subst e1';subst e2';refine⟨_,_,List.getElem?_set_self hgl,by omega,fun e=>?_⟩;have hnew:new=[]:=DE (by omega);subst hnew
   have:v'=s:=by
    rcases A with _|ad
    ·rw[e1]at r1;rcases town.2 with⟨c1,c2⟩|⟨gb,cp,cur,c1,c2,c3,c4,c5,c6,c7⟩
     ·simp[Builtin.append_,run_underlying hu,sizeOf,typeInfo,hinf,Builtin.lenOf,Builtin.firstCells,c1]at r1;rw[←r1.1,c1]
     simp[Builtin.append_,run_underlying hu,sizeOf,typeInfo,hinf,Builtin.lenOf,Builtin.firstCells,c1,c4,storeCells]at r1;rw[←r1.1,c1]
    rw[e1]at r1;rcases town.2 with⟨c1,c2⟩|⟨gb,cp,cur,c1,c2,c3,c4,c5,c6,c7⟩
    ·simp[Builtin.append_,run_underlying hu,sizeOf,typeInfo,hinf,Builtin.lenOf,Builtin.firstCells,c1,loadCells,loadCellsFrom]at r1;rw[←r1.1,c1]
    simp[Builtin.append_,run_underlying hu,sizeOf,typeInfo,hinf,Builtin.lenOf,Builtin.firstCells,c1,c4,storeCells,loadCells,loadCellsFrom]at r1;rw[←r1.1,c1]
   exact this.symm
  exact⟨n',u',by rw[List.getElem?_set_ne hgg];exact hg',Av _,fun _=>rfl⟩
 have hvb:∀b,v'.ownBlock=some b→s.ownBlock=some b∨b=w.heap.size:=by
  intro b hb;rcases r5 with r5|⟨r5,_⟩
  ·exact .inl (by rw[←r5];exact hb)
  rw[r5]at hb;injection hb with hb;exact .inr hb.symm
 refine⟨⟨hr.inpre,?_,?_,?_,hr.bxlen,hr.bxnd,?_,hr.bxown,?_,by simp[hr.tklen],?_,?_,?_⟩,hext,?_⟩
 ·have k:=hr.kept;refine⟨r3.os.trans k.os,r3.tape.trans k.tape,r3.output.trans k.output,Nat.le_trans k.size r3.size,fun i hi hn=>(r3.block i (Nat.lt_of_lt_of_le hi k.size) (fun e=>?_)).trans (k.block i hi hn)⟩;have:=(hold i e.symm).1;omega
 ·rintro b o (hb|⟨hb,_⟩)
  ·exact Nat.lt_of_lt_of_le (hr.stlt b o hb) r3.size
  exact(hvlt b hb).2
 ·rintro b o (hb|⟨hb,_⟩)
  ·exact hr.stnew b o hb
  exact .inr (hvlt b hb).1
 ·rintro b hbx o (hb|⟨hb,_⟩)
  ·exact hr.bxst b hbx o hb
  rcases hvb b hb with e|e
  ·exact hr.tkbx g _ _ hn1 b e hbx
  have:=hr.boxlt hbx;omega
 ·intro i b row hi hrow;obtain⟨us,T'',h1,h2,h3⟩:=hr.box i b row hi hrow;have hmem:b∈G.bx:=Aj hi;exact⟨us,T'',(r3.block b (hr.boxlt hmem) (fun e=>hr.tkbx g _ _ hn1 b e.symm hmem)).trans h1,Dq hext _ _ h2,h3⟩
 ·intro g' n' u' T'' sz' rows' hg' ht';by_cases hgg:g=g'
  ·subst hgg;simp only at hg' ht';rw[List.getElem?_set_self hgl]at hg';rw[List.getElem?_set_self (by rw[←hr.tklen];exact hgl)]at ht';injection hg' with hg';injection hg' with a1 a2;injection ht' with ht';injection ht' with b1 b2;injection b2 with b2 b3;subst a1;subst a2;subst b1;subst b2;subst b3;refine⟨by simp,⟨_,r2⟩,fun b hb o ho=>?_⟩;rintro(hs'|⟨_,hs'⟩)
   ·rcases hvb b hb with e|e
    ·have hlt:o<rows.length * sz:=Nat.lt_of_not_le fun hle=>tsp b e o hle hs';have:rows.length * sz≤(rows.length+new.length) * sz:=Nat.mul_le_mul_right sz (by omega);omega
    have:=hr.stlt b o hs';omega
   omega
  simp only at hg' ht';rw[List.getElem?_set_ne hgg]at hg' ht';obtain⟨h1,⟨xs',h2⟩,h3⟩:=hr.tok g' n' u' T'' sz' rows' hg' ht'
  have hne:u'.ownBlock=none∨u'.ownBlock≠s.ownBlock:=by
   cases hu':u'.ownBlock with
   |none=>exact .inl rfl
   |some b=>exact .inr fun e=>hr.tknd g g' _ _ _ _ hn1 hg' hgg b e.symm hu'
  refine⟨h1,⟨xs',World.ownsRow.kept h2 r3 hne⟩,fun b hb o ho=>?_⟩;rintro(hs'|⟨hs',_⟩)
  ·exact h3 b hb o ho hs'
  rcases hvb b hs' with e|e
  ·exact hr.tknd g g' _ _ _ _ hn1 hg' hgg b e hb
  have:=(hr.toklt hg' hb).2;omega
 ·intro g' n' u' hg' b hb hbx;by_cases hgg:g=g'
  ·subst hgg;simp only at hg';rw[List.getElem?_set_self hgl]at hg';injection hg' with hg';injection hg' with a1 a2;subst a2;rcases hvb b hb with e|e
   ·exact hr.tkbx g _ _ hn1 b e hbx
   have:=hr.boxlt hbx;omega
  simp only at hg';rw[List.getElem?_set_ne hgg]at hg';exact hr.tkbx g' n' u' hg' b hb hbx
 ·intro g1 g2 n1 n2 u1 u2 hg1 hg2 hne b hb hb2;simp only at hg1 hg2;by_cases h1:g=g1
  ·subst h1;rw[List.getElem?_set_self hgl]at hg1;injection hg1 with hg1;injection hg1 with a1 a2;subst a2;rw[List.getElem?_set_ne hne]at hg2;rcases hvb b hb with e|e
   ·exact hr.tknd g g2 _ _ _ _ hn1 hg2 hne b e hb2
   have:=(hr.toklt hg2 hb2).2;omega
  rw[List.getElem?_set_ne h1]at hg1;by_cases h2:g=g2
  ·subst h2;rw[List.getElem?_set_self hgl]at hg2;injection hg2 with hg2;injection hg2 with a1 a2;subst a2;rcases hvb b hb2 with e|e
   ·exact hr.tknd g1 g _ _ _ _ hg1 hn1 hne b hb e
   have:=(hr.toklt hg1 hb).2;omega
  rw[List.getElem?_set_ne h2]at hg2;exact hr.tknd g1 g2 _ _ _ _ hg1 hg2 hne b hb hb2
 simp only[rep];refine⟨?_,_,_,List.getElem?_set_self hgl,by simp,fun _=>rfl⟩;simp only[Ak];refine⟨trivial,?_⟩;have hflat:=(hxs.append e4).mono hst;rcases r2.2 with⟨c1,c2⟩|⟨gb,cp,cur,c1,c2,c3,c4,c5,c6,c7⟩
 ·have hz0:(rows++new).length=0:=by rw[List.length_append];exact c2
  exact⟨none,0,by rw[c1,hz0],by rw[hz0];exact Av _,by simp, .inl (DE hz0)⟩
 refine⟨_,cp,by rw[c1];simp,by simpa using c4,c5, .inr ⟨gb,0,rfl,hflat.froR fun j u hj=>?_⟩⟩;rw[Nat.zero_add]
 have hlt:j<(rows.length+new.length) * sz:=by
  have:=(Ai.1 hj).1
  rwa [r2.1]at this
 have hob:v'.ownBlock=some gb:=by rw[c1];simp[Value.ownBlock]
 exact⟨.inr ⟨hob,hlt⟩,hcells gb j u hob hj⟩
end
section
variable {P:Program}{ev:Operand→Option AV}{h:AH}{R:AV→AH→Prop}{d:Option Tmp}{ty:TypeId}{pos:String}{af:Array Edge}{gd:Option (Nat×Bool)}
theorem WY{T:TypeId}{s y:Operand}{T' sz bytes g:Nat}{rows new:List (List AV)}{tok:Option Nat}{tk':List (Nat×Nat×List (List AV))}[hE:Elm P T T' sz bytes](hs:ev s=some (.sl sz rows (some g)))(hy:ev y=some (.sl sz new tok))(hg:h.tk[g]?=some (T',sz,rows))
    (hsm:rows.length+new.length≤1000000) (hset:SetAt h.tk g [(T',sz,rows++new)] tk') (hR:R (.sl sz (rows++new) (some g)) ⟨h.bx,tk'⟩):AStep P ⟨d, .call {callee:= .builtin .append,args:=#[s,y],argTypes:=#[T,T]},ty,pos,af,gd⟩ ev h R:=by
 intro E G w ec hr he;have k1:=he s (by simp[Op.operands,Call.operands]) _ hs;have k2:=FD _ _ (he y (by simp[Op.operands,Call.operands]) _ hy);simp only[Cl]at k2;obtain⟨v',w',G',m1,m2,m3,m4⟩:=Rx hr hE.eq hE.few hg k1 k2 hsm ty;obtain⟨_,e⟩:=SetAt.one hset;subst e;simp only[execOp,resolve,invoke,builtin,Sem.run_bind,Sem.run_pure,Result.andThen_ok,List.map_toArray,List.map_cons,List.map_nil,m1];exact⟨_,_,G',hR,m2,m3,m4⟩
theorem P5{E:Env}{G:Gh}{w:World}(hr:HRel E G h w)(T sz:Nat):HRel E ⟨G.St,G.bx,G.tk++[(0, .slice none 0 0)]⟩ ⟨h.bx,h.tk++[(T,sz,[])]⟩ w∧Ext G w ⟨G.St,G.bx,G.tk++[(0, .slice none 0 0)]⟩ w∧
    rep ⟨G.St,G.bx,G.tk++[(0, .slice none 0 0)]⟩ w (.sl sz [] (some h.tk.length)) (.slice none 0 0):=by
 obtain⟨k1,k2⟩:=hr.addTok (T:=T) (sz:=sz) (n:=0) (u:= .slice none 0 0) (rows:=[]) ⟨rfl,⟨[],World.ownsRow_nil w _ T sz⟩,fun b hb=>by simp[Value.ownBlock]at hb⟩ (fun b hb=>by simp[Value.ownBlock]at hb) (fun _ _ _ _ b hb=>by simp[Value.ownBlock]at hb);refine⟨k1,k2,?_⟩;simp only[rep,Ak];exact⟨⟨trivial,none,0,rfl,Av _,BJ _, .inl trivial⟩,0, .slice none 0 0,by rw[←hr.tklen];simp,Av _,fun _=>rfl⟩
theorem WZ{T:TypeId}{s y:Operand}{T' sz bytes n:Nat}{new:List (List AV)}{tok:Option Nat}{tk':List (Nat×Nat×List (List AV))}[hE:Elm P T T' sz bytes](hs:ev s=some (.v (.slice none 0 0)))(hy:ev y=some (.sl sz new tok))
    (hsm:new.length≤1000000) (hset:SnocAt h.tk (T',sz,new) n tk') (hR:R (.sl sz new (some n)) ⟨h.bx,tk'⟩):AStep P ⟨d, .call {callee:= .builtin .append,args:=#[s,y],argTypes:=#[T,T]},ty,pos,af,gd⟩ ev h R:=by
 intro E G w ec hr he;have k1:=he s (by simp[Op.operands,Call.operands]) _ hs;have k2:=FD _ _ (he y (by simp[Op.operands,Call.operands]) _ hy);simp only[Cl]at k2;simp only[rep]at k1;obtain⟨q1,q2,q3⟩:=P5 hr T' sz;obtain⟨v',w',G',m1,m2,m3,m4⟩:=Rx (y:=ec y) q1 hE.eq hE.few (g:=h.tk.length) (rows:=[]) (new:=new) (by simp) q3 k2 (by simpa using hsm) ty;obtain⟨e1,e2⟩:=hset.eq;subst e1;subst e2;simp only[execOp,resolve,invoke,builtin,Sem.run_bind,Sem.run_pure,Result.andThen_ok,List.map_toArray,List.map_cons,List.map_nil,k1,m1];refine⟨_,_,G',hR,?_,q2.trans m3,?_⟩
 ·simpa using m2
 simpa using m4
theorem Wa{T:TypeId}{x y:Operand}{E sz bytes n:Nat}{c:Int}{tk':List (Nat×Nat×List (List AV))}[hE:Elm P T E sz bytes](hx:ev x=some (.v (.int .i64 0)))(hy:ev y=some (.v (.int .i64 c)))(hc:0≤c∧c≤1000000)
    (hset:SnocAt h.tk (E,sz,[]) n tk') (hR:R (.sl sz [] (some n)) ⟨h.bx,tk'⟩):AStep P ⟨d, .makeSlice T x y,ty,pos,af,gd⟩ ev h R:=by
 intro E' G w ec hr he;have k1:=he x (by simp[Op.operands]) _ hx;have k2:=he y (by simp[Op.operands]) _ hy;simp only[rep]at k1 k2;obtain⟨hu,inf,z,hinf,hz,hzs,hs,hby,hp⟩:=Ey hE.eq;obtain⟨m,rfl⟩:=Int.eq_ofNat_of_zero_le hc.1;have hm:m≤1000000:=by omega
 have hw:IntKind.i64.wrap (m:Int)=m:=IntWalk.i64_in _ (by omega);have hw0:IntKind.i64.wrap 0=0:=by decide
 have hbig:¬(inf.bytes:Int) * (m:Int)>2 ^ 48:=by
  have h1:inf.bytes * m≤100000 * 1000000:=Nat.mul_le_mul (by rw[hby];exact hE.few) hm;have h2:((inf.bytes * m:Nat):Int)≤100000000000:=by omega
  rw[Int.natCast_mul]at h2;omega
 have hneg:¬((m:Int)<0):=by omega
 have hrun:∃cells:Array Value,cells.size=m * sz∧(Instr.makeSlice T (.int .i64 0) (.int .i64 m)).run P w= .ok (.slice (some ⟨w.heap.size,0,none⟩) 0 m) (w.alloc (.cells cells E)):=by
  refine⟨(Array.range (m * sz)).map ((if m * sz=0 then #[]else z.cells)[· % (if m * sz=0 then #[]else z.cells:Array Value).size]!),by simp,?_⟩;by_cases h0:m * sz=0
  ·simp[Instr.makeSlice,run_underlying hu,asInt,asIntOf,typeInfo,hinf,hw,hw0,hneg,sizeOf,hs,h0,newRow];exact fun hh=>absurd hh hbig
  simp[Instr.makeSlice,run_underlying hu,asInt,asIntOf,typeInfo,hinf,hw,hw0,hneg,sizeOf,hs,h0,newRow,zeroValue,hz];exact fun hh=>absurd hh hbig
 obtain⟨cells,c1,c2⟩:=hrun;obtain⟨q1,q2⟩:=hr.below (w':=w.alloc (.cells cells E)) ((Below.refl _ _).alloc (Av _) _);obtain⟨e1,e2⟩:=hset.eq;subst e1;subst e2
 have hown:(w.alloc (.cells cells E)).ownsRow E'.w0.heap.size E sz (.slice (some ⟨w.heap.size,0,none⟩) 0 m) 0 []:=
  ⟨by simp, .inr ⟨w.heap.size,m,cells,rfl,hr.kept.size,Oy _ _,BJ _,by unfold maxLen;omega,c1,by simp⟩⟩
 obtain⟨r1,r2⟩:=q1.addTok (T:=E) (sz:=sz) (n:=0) (u:= .slice (some ⟨w.heap.size,0,none⟩) 0 m) (rows:=[]) ⟨rfl,⟨[],hown⟩,fun b hb o ho=>by
     simp[Value.ownBlock]at hb;subst hb;intro hs;have:=hr.stlt _ _ hs
     omega⟩ (fun b hb=>by
     simp[Value.ownBlock]at hb;subst hb
     exact fun hm=>by have:=hr.boxlt hm;omega) (fun g n' u' hg b hb=>by
     simp[Value.ownBlock]at hb;subst hb
     exact fun e=>by have:=(hr.toklt hg e).2;omega)
 simp only[execOp,k1,k2,Sem.run_bind,c2,Result.andThen_ok,Sem.run_pure];refine⟨_,_,_,hR,r1,q2.trans r2,?_⟩;simp only[rep,Ak];refine⟨⟨trivial,_,m,rfl,BJ _,by unfold maxLen;omega, .inl trivial⟩,0,_,?_,Av _,fun _=>rfl⟩;rw[←hr.tklen];simp
theorem Ry{St:Nat→Nat→Prop}{w:World}{sz:Nat}{rows:List (List AV)}{y:Value}(hy:Ak St w (.sl sz rows none) y){l k:Nat}(hk:k≤rows.length)(hl:l≤k):
    ∃A cap,y= .slice A rows.length cap∧rows.length≤cap∧Ak St w (.sl sz ((rows.take k).drop l) none) (.slice (if cap=l then A else A.map (·.add (l * sz))) (k - l) (cap - l)):=by
 simp only[Ak]at hy;obtain⟨_,A,cap,h1,h2,h3,h4⟩:=hy;refine⟨A,cap,h1,h2,?_⟩;simp only[Ak];have hlen:((rows.take k).drop l).length=k - l:=by simp;omega
 refine⟨trivial,_,_,by rw[hlen],by rw[hlen];omega,by omega,?_⟩;by_cases h0:(rows.take k).drop l=[]
 ·exact .inl h0
 have hlk:l<k:=by
  rcases Nat.lt_or_ge l k with h'|h'
  ·exact h'
  exact absurd (DE (by rw[hlen];omega)) h0
 rcases h4 with h4|⟨b,off,h5,h6⟩
 ·subst h4;simp at h0
 refine .inr ⟨b,off+l * sz,?_,LQ fun i r hi=>?_⟩
 ·rw[if_neg (by omega),h5,Option.map_some,Addr.add_mid]
 rw[List.getElem?_drop,List.getElem?_take]at hi;split at hi
 ·obtain⟨a1,a2⟩:=Jg h6 hi;rw[Nat.add_mul,←Nat.add_assoc]at a2;exact⟨a1,a2⟩
 cases hi
theorem Rz{T:TypeId}{x hi:Operand}{E sz bytes k:Nat}{i:Int}{rows:List (List AV)}{tok:Option Nat}[hE:Elm P T E sz bytes](hx:ev x=some (.sl sz rows tok))(hh:ev hi=some (.v (.int .i64 i)))(hi':i=(k:Int))(hk:k≤rows.length)(hR:R (.sl sz (rows.take k) none) h):
    AStep P ⟨d, .slice T x none (some hi) none,ty,pos,af,gd⟩ ev h R:=by
 refine Cv (fun _ G w ec _ he=>?_) hR;have k1:=FD _ _ (he x (by simp[Op.operands]) _ hx);have k2:=he hi (by simp[Op.operands]) _ hh;simp only[Cl]at k1;simp only[rep]at k2;obtain⟨hu,inf,z,hinf,hz,hzs,hs,hby,hp⟩:=Ey hE.eq;obtain⟨A,cap,e1,e2,e3⟩:=Ry k1 (l:=0) hk (BJ _);subst hi';have hle:k≤cap:=by omega
 refine⟨_,?_,by simp only[rep];simpa using e3⟩;simp[execOp,e1,k2,Instr.sliceAt,Instr.slice,Instr.sliceBounds,Instr.sliceBound,asIntOf,run_underlying hu,sizeOf,typeInfo,hinf,hs,hle]
theorem P6{T:TypeId}{x lo:Operand}{E sz bytes l:Nat}{i:Int}{rows:List (List AV)}{tok:Option Nat}[hE:Elm P T E sz bytes](hx:ev x=some (.sl sz rows tok))(hh:ev lo=some (.v (.int .i64 i)))(hi':i=(l:Int))(hk:l≤rows.length)(hR:R (.sl sz (rows.drop l) none) h):
    AStep P ⟨d, .slice T x (some lo) none none,ty,pos,af,gd⟩ ev h R:=by
 refine Cv (fun _ G w ec _ he=>?_) hR;have k1:=FD _ _ (he x (by simp[Op.operands]) _ hx);have k2:=he lo (by simp[Op.operands]) _ hh;simp only[Cl]at k1;simp only[rep]at k2;obtain⟨hu,inf,z,hinf,hz,hzs,hs,hby,hp⟩:=Ey hE.eq;obtain⟨A,cap,e1,e2,e3⟩:=Ry k1 (k:=rows.length) (Av _) hk;subst hi';refine⟨_,?_,by simp only[rep];rw[List.take_length]at e3;exact e3⟩;simp[execOp,e1,k2,Instr.sliceAt,Instr.slice,Instr.sliceBounds,Instr.sliceBound,asIntOf,run_underlying hu,sizeOf,typeInfo,hinf,hs,hk]
end
mutual
def Ap(n m:Nat):AV→Bool
 | .v _=>true
 | .agg cs=>Aq n m cs
 | .tup cs=>Aq n m cs
 | .sl _ _ none=>true
 | .sl _ _ (some g)=>Nat.blt g m
 | .fp _=>true
 | .bp i _=>Nat.blt i n
 | .bs i _ _ _ _=>Nat.blt i n
 | .fn _ caps=>Aq n m caps
 | .any=>true
def Aq(n m:Nat):List AV→Bool
 |[]=>true
 |x::xs=>Ap n m x&&Aq n m xs
end
mutual
theorem KY{G:Gh}{w:World}(n m:Nat):∀(x:AV) (y:Value),Ap n m x=true→rep G w x y→rep ⟨G.St,G.bx.take n,G.tk.take m⟩ w x y
 | .v _,_,_,h=>by simpa only[rep]using h
 | .agg cs,_,hb,h=>by
   simp only[Ap]at hb;simp only[rep]at h ⊢;obtain⟨ys,h1,h2⟩:=h;exact⟨ys,h1,JB n m cs ys hb h2⟩
 | .tup cs,_,hb,h=>by
   simp only[Ap]at hb;simp only[rep]at h ⊢;obtain⟨ys,h1,h2⟩:=h;exact⟨ys,h1,JB n m cs ys hb h2⟩
 | .sl sz rows none,_,_,h=>by simpa only[rep]using h
 | .sl sz rows (some g),_,hb,h=>by
   simp only[Ap]at hb;simp only[rep]at h ⊢;obtain⟨h0,n',u,h1,h2⟩:=h;refine⟨h0,n',u,?_,h2⟩;rw[List.getElem?_take,if_pos (show g<m from B6 hb)];exact h1
 | .fp _,_,_,h=>by simpa only[rep]using h
 | .bs i off _ _ _,_,hb,h=>by
   simp only[Ap]at hb;simp only[rep]at h ⊢;obtain⟨b,h1,h2⟩:=h;refine⟨b,?_,h2⟩;rw[List.getElem?_take,if_pos (show i<n from B6 hb)];exact h1
 | .bp i off,_,hb,h=>by
   simp only[Ap]at hb;simp only[rep]at h ⊢;obtain⟨b,h1,h2⟩:=h;refine⟨b,?_,h2⟩;rw[List.getElem?_take,if_pos (show i<n from B6 hb)];exact h1
 | .fn _ caps,_,hb,h=>by
   simp only[Ap]at hb;simp only[rep]at h ⊢;obtain⟨ys,h1,h2⟩:=h;exact⟨ys,h1,JB n m caps ys hb h2⟩
 | .any,_,_,_=>by simp only[rep]
theorem JB{G:Gh}{w:World}(n m:Nat):∀(xs:List AV) (ys:List Value),Aq n m xs=true→AY G w xs ys→AY ⟨G.St,G.bx.take n,G.tk.take m⟩ w xs ys
 |[],_,_,h=>by simpa only[AY]using h
 |x::xs,_,hb,h=>by
   simp only[Aq,Bool.and_eq_true]at hb;simp only[AY]at h ⊢;obtain⟨z,zs,h1,h2,h3⟩:=h;exact⟨z,zs,h1,KY n m x z hb.1 h2,JB n m xs zs hb.2 h3⟩
end
def At(n m:Nat):List (List AV)→Bool
 |[]=>true
 |x::xs=>Aq n m x&&At n m xs
theorem P7{n m:Nat}:∀{l:List (List AV)},At n m l=true→∀{i:Nat} {row:List AV},l[i]?=some row→Aq n m row=true
 |[],_,i,row,hi=>by simp at hi
 |x::l,h,i,row,hi=>by
   simp only[At,Bool.and_eq_true]at h
   cases i with
   |zero=>simp at hi;subst hi;exact h.1
   |succ i=>exact P7 h.2 (by simpa using hi)
theorem HRel.trunc{E:Env}{G:Gh}{h:AH}{w:World}(hr:HRel E G h w)(n m:Nat)(hn:E.ins.length≤n)(hb:At n m (h.bx.take n)=true):HRel E ⟨G.St,G.bx.take n,G.tk.take m⟩ ⟨h.bx.take n,h.tk.take m⟩ w:=by
 have tkget:∀(g n':Nat) (u:Value),(G.tk.take m)[g]?=some (n',u)→G.tk[g]?=some (n',u):=fun g n' u hg=>by
  rw[List.getElem?_take]at hg;split at hg
  ·exact hg
  cases hg
 refine⟨fun i b hi=>by rw[List.getElem?_take,if_pos (Nat.lt_of_lt_of_le (Ai.1 hi).1 hn)];exact hr.inpre i b hi,hr.kept,hr.stlt,hr.stnew,by simp[hr.bxlen],List.Nodup.sublist (List.take_sublist n G.bx) hr.bxnd,fun b hb=>hr.bxst b (List.mem_of_mem_take hb),fun b hb=>hr.bxown b (List.mem_of_mem_take hb),?_,by simp[hr.tklen],?_,?_,?_⟩
 ·intro i b row hi hrow;simp only at hi hrow;have hbp:=P7 hb hrow;rw[List.getElem?_take]at hi hrow;split at hi
  ·rename_i hlt;rw[if_pos hlt]at hrow;obtain⟨us,T,h1,h2,h3⟩:=hr.box i b row hi hrow;exact⟨us,T,h1,JB n m row us hbp h2,h3⟩
  cases hi
 ·intro g n' u T sz rows hg ht;refine hr.tok g n' u T sz rows (tkget g n' u hg) ?_;simp only at ht;rw[List.getElem?_take]at ht;split at ht
  ·exact ht
  cases ht
 ·exact fun g n' u hg b hb hm=>hr.tkbx g n' u (tkget g n' u hg) b hb (List.mem_of_mem_take hm)
 exact fun g g' n1 n2 u1 u2 hg hg' hne=>hr.tknd g g' n1 n2 u1 u2 (tkget _ _ _ hg) (tkget _ _ _ hg') hne
def Weak(N:Dim)(s s':AS):Prop:=∀(E:Env) (a:Act) (w:World),Rel N E s a w→Rel N E s' a w
inductive Sub(n m:Nat)(f:Nat→Option AV):List (Nat×AV)→Prop
 |nil:Sub n m f []
 |cons (t:Nat) (x:AV) (l:List (Nat×AV)):f t=some x→Ap n m x=true→Sub n m f l→Sub n m f ((t,x)::l)
 |any (t:Nat) (l:List (Nat×AV)):Sub n m f l→Sub n m f ((t, .any)::l)
 |sl (t:Nat) (sz:Nat) (rows:List (List AV)) (g:Nat) (l:List (Nat×AV)):f t=some (.sl sz rows (some g))→Sub n m f l→Sub n m f ((t, .sl sz rows none)::l)
 |slnil (t:Nat) (sz:Nat) (l:List (Nat×AV)):f t=some (.v (.slice none 0 0))→Sub n m f l→Sub n m f ((t, .sl sz [] none)::l)
 |of (t:Nat) (y x:AV) (l:List (Nat×AV)):f t=some y→(∀(G:Gh) (w:World) (v:Value),rep G w y v→rep G w x v)→Ap n m x=true→Sub n m f l→Sub n m f ((t,x)::l)
theorem Sub.look{n m:Nat}{f:Nat→Option AV}{l:List (Nat×AV)}(h:Sub n m f l){t:Nat}{x:AV}(ht:Go.Proofs.YtobclmbkdhbnpaaGreatDoor.look l t=some x){G:Gh}{w:World}{a:Act}(hs:SlotsR G w f a):rep ⟨G.St,G.bx.take n,G.tk.take m⟩ w x (a.tmps.getD t undef):=by
 induction h with
 |nil=>cases ht
 |cons t' x' l h1 h2 _ ih=>
   rw[←J6,Fz]at ht;split at ht
   ·rename_i e;subst e;injection ht with ht;subst ht
    exact KY n m _ _ h2 (hs _ _ h1)
   exact ih ht
 |any t' l _ ih=>
   rw[←J6,Fz]at ht;split at ht
   ·injection ht with ht;subst ht;simp only[rep]
   exact ih ht
 |sl t' sz rows g l h1 _ ih=>
   rw[←J6,Fz]at ht;split at ht
   ·rename_i e;subst e;injection ht with ht;subst ht
    have:=hs _ _ h1;simp only[rep]at this ⊢;exact this.1
   exact ih ht
 |slnil t' sz l h1 _ ih=>
   rw[←J6,Fz]at ht;split at ht
   ·rename_i e;subst e;injection ht with ht;subst ht
    have:=hs _ _ h1;simp only[rep]at this ⊢;rw[this];simp only[Ak];exact⟨trivial,none,0,rfl,Av _,BJ _, .inl trivial⟩
   exact ih ht
 |of t' y x' l h1 h2 h3 _ ih=>
   rw[←J6,Fz]at ht;split at ht
   ·rename_i e;subst e;injection ht with ht;subst ht
    exact KY n m _ _ h3 (h2 _ _ _ (hs _ _ h1))
   exact ih ht
theorem B7{f:Nat→Option AV}{bx:List (List AV)}{tk:List (Nat×Nat×List (List AV))}{l:List (Nat×AV)}{N:Dim}(n m:Nat){bx':List (List AV)}{tk':List (Nat×Nat×List (List AV))}(hn:Nat.ble N.ni n=true)(hb:bx.take n=bx')(ht:tk.take m=tk')(hbp:At n m bx'=true)(hl:Sub n m f l):Weak N ⟨f,⟨bx,tk⟩⟩ ⟨look l,⟨bx',tk'⟩⟩:=by
 rintro E a w ⟨G,h1,h2,h3,h4,h5⟩;subst hb;subst ht;exact⟨_,h1.trunc n m (by rw[h5];exact B6 hn) hbp,fun t x hx=>hl.look hx h2,h3,h4,h5⟩
theorem Weak.trans{N:Dim}{s s' s'':AS}(h:Weak N s s')(k:Weak N s' s''):Weak N s s'':=fun E a w r=>k E a w (h E a w r)
section
variable {P:Program}{N:Dim}{Q:Exit→AS→Prop}{s:AS}
theorem Wc{c:Code}{s':AS}(hw:Weak N s s')(h:Bz P N c Q s'):Bz P N c Q s:=fun E a w hr=>h E a w (hw E a w hr)
theorem Bm{c:Code}(I:Nat→AS→Prop)(n:Nat){s0:AS}(hw:Weak N s s0)(h0:I n s0)(round:∀n s,I n s→Bz P N c (G0 (fun s'=>∃m s'',m<n∧I m s''∧Weak N s' s'') Q) s):Bz P N (.loop c) Q s:=by
 refine WE (fun n s=>∃s',I n s'∧Weak N s s') n ⟨s0,h0,hw⟩ ?_;rintro n s ⟨s',h1,h2⟩;refine Wc h2 ?_;intro E a w hr;refine wp_mono (round n s' h1 E a w hr) ?_;rintro e a' w' ⟨s1,hq,hr'⟩;refine⟨s1,?_,hr'⟩
 cases e with
 |normal=>obtain⟨m,s'',q1,q2,q3⟩:=hq;exact⟨m,q1,s'',q2,q3⟩
 |exit id=>exact hq
 |goto l=>exact hq
 |ret=>exact hq
 |panic c=>exact hq
 |outgrown=>exact hq
theorem JC{x y:Code}(S0:AS)(h1:Bz P N x (G0 (fun s'=>Weak N s' S0) Q) s)(h2:Bz P N y Q S0):Bz P N (.seq x y) Q s:=by
 intro E a w hr;refine wp_seq (wp_mono (h1 E a w hr) ?_);rintro e a' w' ⟨s',hq,hr'⟩
 cases e with
 |normal=>exact h2 E a' w' (hq E a' w' hr')
 |exit id=>exact⟨s',hq,hr'⟩
 |goto l=>exact⟨s',hq,hr'⟩
 |ret=>exact⟨s',hq,hr'⟩
 |panic c=>exact⟨s',hq,hr'⟩
 |outgrown=>exact⟨s',hq,hr'⟩
theorem S4{c:Code}{f:Nat→Option AV}{bx:List (List AV)}{tk tk':List (Nat×Nat×List (List AV))}(t T sz:Nat){g:Nat}(ht:f t=some (.v (.slice none 0 0)))(hs:SnocAt tk (T,sz,[]) g tk')(h:Bz P N c Q ⟨put (some t) (.sl sz [] (some g)) f,⟨bx,tk'⟩⟩):Bz P N c Q ⟨f,⟨bx,tk⟩⟩:=by
 rintro E a w ⟨G,h1,h2,h3⟩;obtain⟨e1,e2⟩:=hs.eq;subst e1;subst e2;obtain⟨k1,k2,k3⟩:=P5 h1 T sz;refine h E a w ⟨_,k1,fun t' x hx=>?_,h3⟩;simp only at hx;rw[Fz]at hx;split at hx
 ·rename_i e;subst e;injection hx with hx;subst hx;have:=h2 _ _ ht;simp only[rep]at this;rw[this];exact k3
 exact Hc k2 _ _ (h2 t' x hx)
end
section
section
variable {n m:Nat}{f:Nat→Option AV}{t:Nat}{x:AV}{l:List (Nat×AV)}{sz:Nat}{rows:List (List AV)}{g:Nat}
theorem B9(h1:f t=some x)(h2:Ap n m x=true)(h:Sub n m f l):Sub n m f ((t,x)::l):= .cons _ _ _ h1 h2 h
theorem BC(h:Sub n m f l):Sub n m f ((t, .any)::l):= .any _ _ h
theorem BD(h1:f t=some (.sl sz rows (some g)))(h:Sub n m f l):Sub n m f ((t, .sl sz rows none)::l):= .sl _ _ _ _ _ h1 h
theorem BE(h1:f t=some (.v (.slice none 0 0)))(h:Sub n m f l):Sub n m f ((t, .sl sz [] none)::l):= .slnil _ _ _ h1 h
end
abbrev Cb:=Nat×Nat×List (List AV)
def ACall(P:Program)(f:FuncId)(xs:List AV)(bx:List (List AV))(R:AV→List (List AV)→List Cb→Prop):Prop:=
 ∀(w:World) (St:Nat→Nat→Prop) (bl:List Nat) (vs:List Value),HRel ⟨w,bl,St⟩ ⟨St,bl,[]⟩ ⟨bx,[]⟩ w→AY ⟨St,bl,[]⟩ w xs vs→Calls P f vs.toArray w fun e w'=>match e with
  | .returned v=>∃r bx' tk' G',R r bx' tk'∧HRel ⟨w,bl,St⟩ G' ⟨bx',tk'⟩ w'∧Ext ⟨St,bl,[]⟩ w G' w'∧rep G' w' r v
  |_=>False
theorem ACall.mono{P:Program}{f:FuncId}{xs:List AV}{bx:List (List AV)}{R R':AV→List (List AV)→List Cb→Prop}(h:ACall P f xs bx R)(hR:∀r b t,R r b t→R' r b t):ACall P f xs bx R':=by
 intro w St bl vs h1 h2;refine Calls.mono (h w St bl vs h1 h2) ?_;intro e w' h3
 cases e with
 |returned v=>obtain⟨r,b,t,G',k1,k2⟩:=h3;exact⟨r,b,t,G',hR _ _ _ k1,k2⟩
 |panicked c=>exact h3.elim
 |outgrown=>exact h3.elim
def LeA(x y:AV):Prop:=∀(G:Gh) (w:World) (v:Value),rep G w x v→rep G w y v
def LeL(xs ys:List AV):Prop:=∀(G:Gh) (w:World) (vs:List Value),AY G w xs vs→AY G w ys vs
theorem LeA.refl(x:AV):LeA x x:=fun _ _ _ h=>h
theorem AM (x:AV):LeA x x:=LeA.refl x
theorem LeA.of_eq{x y:AV}(h:x=y):LeA x y:=h ▸ AM x
theorem LeA.any(x:AV):LeA x .any:=fun _ _ _ _=>by simp only[rep]
theorem LeA.nil(sz:Nat):LeA (.v (.slice none 0 0)) (.sl sz [] none):=fun G w v h=>by
 simp only[rep]at h ⊢;rw[h];simp only[Ak];exact⟨trivial,none,0,rfl,Av _,BJ _, .inl trivial⟩
theorem LeL.nil:LeL [] []:=fun _ _ _ h=>h
theorem LeL.cons{x y:AV}{xs ys:List AV}(h:LeA x y)(k:LeL xs ys):LeL (x::xs) (y::ys):=fun G w vs hv=>by
 simp only[AY]at hv ⊢;obtain⟨z,zs,h1,h2,h3⟩:=hv;exact⟨z,zs,h1,h G w z h2,k G w zs h3⟩
theorem LeL.refl(xs:List AV):LeL xs xs:=fun _ _ _ h=>h
theorem LeA.agg{xs ys:List AV}(h:LeL xs ys):LeA (.agg xs) (.agg ys):=fun G w v hv=>by
 simp only[rep]at hv ⊢;obtain⟨zs,h1,h2⟩:=hv;exact⟨zs,h1,h G w zs h2⟩
theorem LeA.tup{xs ys:List AV}(h:LeL xs ys):LeA (.tup xs) (.tup ys):=fun G w v hv=>by
 simp only[rep]at hv ⊢;obtain⟨zs,h1,h2⟩:=hv;exact⟨zs,h1,h G w zs h2⟩
inductive ResA(P:Program)(s:AS):List ResultVar→List AV→Prop
 |nil:ResA P s [] []
 |tmp (t:Tmp) (x:AV) (rs:List ResultVar) (xs:List AV):s.sl t=some x→ResA P s rs xs→ResA P s (.tmp t::rs) (x::xs)
 |cellN (a:Tmp) (T:TypeId) (i sz:Nat) (row:List AV) (rs:List ResultVar) (xs:List AV):Typ P T sz true→s.sl a=some (.bp i 0)→s.h.bx[i]?=some row→Nat.beq row.length sz=true→ResA P s rs xs→ResA P s (.cell a T::rs) (.agg row::xs)
 |cell1 (a:Tmp) (T:TypeId) (i sz:Nat) (row:List AV) (x:AV) (rs:List ResultVar) (xs:List AV):Typ P T sz false→s.sl a=some (.bp i 0)→s.h.bx[i]?=some row→row[0]?=some x→ResA P s rs xs→ResA P s (.cell a T::rs) (x::xs)
def EK:List AV→AV
 |[x]=>x
 |xs=> .tup xs
def LY(tmps:Array Value):ResultVar→Sem Value
 | .tmp t=>pure (tmps.getD t undef)
 | .cell a t=>do loadVar t (←asAddr (tmps.getD a undef))
theorem ResA.run{P:Program}{s:AS}{rs:List ResultVar}{xs:List AV}(h:ResA P s rs xs){E:Env}{G:Gh}{a:Act}{w:World}(hr:HRel E G s.h w)(hs:SlotsR G w s.sl a):
    ∃ys,(rs.mapM (LY a.tmps)).run P w= .ok ys w∧AY G w xs ys:=by
 induction h with
 |nil=>exact⟨[],by simp,by simp only[AY]⟩
 |tmp t x rs xs h1 _ ih=>
   obtain⟨ys,k1,k2⟩:=ih;refine⟨_::ys,?_,by simp only[AY];exact⟨_,ys,rfl,hs t x h1,k2⟩⟩;rw[List.mapM_cons];simp only[Sem.run_bind,LY,Sem.run_pure,Result.andThen_ok,k1]
 |cellN c T i sz row rs xs ht h1 h2 h3 _ ih=>
   obtain⟨ys,k1,k2⟩:=ih;have q:=hs c _ h1;simp only[rep]at q;obtain⟨b,q1,q2⟩:=q;obtain⟨us,T',m1,m2,m3⟩:=hr.boxAt q1 h2;have hl:us.length=sz:=by rw[Fx m2];exact Nat.eq_of_beq_eq_true h3
   have hload:=Ou (P:=P) (T:=T) (cs:=us) (by rw[hl];exact ht.eq) (b:=b) (o:=0) (w:=w) (by have:=Rn m1 0 us.length;simpa using this);simp only[Instr.loadAt,Instr.sureAddr,Sem.run_bind,Sem.run_pure,Result.andThen_ok]at hload;refine⟨.agg us.toArray::ys,?_,by simp only[AY,rep];exact⟨_,ys,rfl,⟨us,rfl,m2⟩,k2⟩⟩;rw[List.mapM_cons];simp only[Sem.run_bind,LY,q2,asAddr,Sem.run_pure,Result.andThen_ok,hload,k1]
 |cell1 c T i sz row x rs xs ht h1 h2 h3 _ ih=>
   obtain⟨ys,k1,k2⟩:=ih;have q:=hs c _ h1;simp only[rep]at q;obtain⟨b,q1,q2⟩:=q;obtain⟨us,T',m1,m2,m3⟩:=hr.boxAt q1 h2;obtain⟨u,n1,n2⟩:=LN m2 h3;have hload:=Ot (P:=P) ht.eq (b:=b) (o:=0) (w:=w) (u:=u) (by simp only[World.cell?,m1];simpa using n1);simp only[Instr.loadAt,Instr.sureAddr,Sem.run_bind,Sem.run_pure,Result.andThen_ok]at hload;refine⟨u::ys,?_,by simp only[AY];exact⟨_,ys,rfl,n2,k2⟩⟩;rw[List.mapM_cons];simp only[Sem.run_bind,LY,q2,asAddr,Sem.run_pure,Result.andThen_ok,hload,k1]
theorem Wd(fn:Func)(tmps:Array Value):results fn tmps=(fn.results.mapM (LY tmps)>>=fun vs=>pure (if h:vs.size=1 then vs[0]else .tuple vs)):=by
 unfold results;refine congrArg (fun(F:ResultVar→Sem Value)=>Array.mapM (m:=Sem) F fn.results>>=fun vs=>pure (if h:vs.size=1 then vs[0]else Value.tuple vs)) (funext fun r=>?_);cases r<;>rfl
theorem ResA.results{P:Program}{fn:Func}{s:AS}{rs:List ResultVar}{xs:List AV}(hfr:fn.results=rs.toArray)(h:ResA P s rs xs){E:Env}{G:Gh}{a:Act}{w:World}(hr:HRel E G s.h w)(hs:SlotsR G w s.sl a):∃v,(results fn a.tmps).run P w= .ok v w∧rep G w (EK xs) v:=by
 obtain⟨ys,k1,k2⟩:=h.run hr hs;have hl:=Fx k2;refine⟨if h:ys.toArray.size=1 then ys.toArray[0]else .tuple ys.toArray,?_,?_⟩
 ·rw[Wd,hfr,Sem.run_bind,Array.mapM_eq_mapM_toList];simp only[Sem.run_map,k1,Result.andThen_ok,Sem.run_pure]
 match xs,ys,k2,hl with
 |[x],[y],k2,_=>
   simp only[AY]at k2;obtain⟨z,zs,e1,e2,_⟩:=k2;injection e1 with e1 _;subst e1
   simpa[EK]using e2
 |[],[],k2,_=>simp[EK,rep,AY]
 |x::x'::xs,y::y'::ys,k2,_=>
   simp only[List.size_toArray,List.length_cons,EK];rw[dif_neg (by omega)];simp only[rep];exact⟨_,rfl,k2⟩
 |[x],[],_,hl=>simp at hl
 |[x],y::y'::ys,_,hl=>simp at hl
 |[],y::ys,_,hl=>simp at hl
 |x::x'::xs,[],_,hl=>simp at hl
 |x::x'::xs,[y],_,hl=>simp at hl
mutual
def DF(g:Option Nat):AV→AV
 | .v x=> .v x
 | .agg cs=> .agg (Jk g cs)
 | .tup cs=> .tup (Jk g cs)
 | .sl sz rows none=> .sl sz rows none
 | .sl sz rows (some g')=>match g with
   |none=> .sl sz rows none
   |some k=>match Nat.beq k g' with
     |true=> .sl sz rows (some 0)
     |false=> .sl sz rows none
 | .fp row=> .fp row
 | .bp i o=> .bp i o
 | .bs i o sz n cap=> .bs i o sz n cap
 | .fn f caps=> .fn f (Jk g caps)
 | .any=> .any
def Jk(g:Option Nat):List AV→List AV
 |[]=>[]
 |x::xs=>DF g x::Jk g xs
end
section
variable {G:Gh}{w:World}{g:Option Nat}{tkl:List (Nat×Value)}(hg:∀k,g=some k→∃p,G.tk[k]?=some p∧tkl=[p])
include hg
mutual
theorem P8:∀(x:AV) (v:Value),rep G w x v→rep ⟨G.St,G.bx,tkl⟩ w (DF g x) v
 | .v _,_,h=>by simpa only[rep,DF]using h
 | .agg cs,_,h=>by
   simp only[rep,DF]at h ⊢;obtain⟨ys,h1,h2⟩:=h;exact⟨ys,h1,NF cs ys h2⟩
 | .tup cs,_,h=>by
   simp only[rep,DF]at h ⊢;obtain⟨ys,h1,h2⟩:=h;exact⟨ys,h1,NF cs ys h2⟩
 | .sl sz rows none,_,h=>by simpa only[rep,DF]using h
 | .sl sz rows (some g'),v,h=>by
   simp only[rep]at h;obtain⟨h0,n,u,h1,h2⟩:=h;simp only[DF];split
   ·simp only[rep];exact h0
   rename_i k;split
   ·rename_i hb;have e:k=g':=Nat.eq_of_beq_eq_true hb;subst e;obtain⟨p,k1,k2⟩:=hg k rfl;rw[h1]at k1;injection k1 with k1;simp only[rep];refine⟨h0,n,u,?_,h2⟩;rw[k2,←k1];rfl
   simp only[rep];exact h0
 | .fp _,_,h=>by simpa only[rep,DF]using h
 | .bp _ _,_,h=>by simpa only[rep,DF]using h
 | .bs _ _ _ _ _,_,h=>by simpa only[rep,DF]using h
 | .fn f caps,_,h=>by
   simp only[rep,DF]at h ⊢;obtain⟨ys,h1,h2⟩:=h;exact⟨ys,h1,NF caps ys h2⟩
 | .any,_,_=>by simp only[rep,DF]
theorem NF:∀(xs:List AV) (vs:List Value),AY G w xs vs→AY ⟨G.St,G.bx,tkl⟩ w (Jk g xs) vs
 |[],_,h=>by have _:=hg;simpa only[AY,Jk]using h
 |x::xs,_,h=>by
   simp only[AY,Jk]at h ⊢;obtain⟨z,zs,h1,h2,h3⟩:=h;exact⟨z,zs,h1,P8 x z h2,NF xs zs h3⟩
end
end
def JD(tk:List Cb):Option Nat→Option (List Cb)
 |none=>some []
 |some k=>(tk[k]?).map fun t=>[t]
theorem HRel.addSt{E:Env}{G:Gh}{h:AH}{w:World}(hr:HRel E G h w)(h0:∀b o,E.St0 b o→b<E.w0.heap.size∧b∉E.ins):HRel E ⟨fun b o=>G.St b o∨E.St0 b o,G.bx,G.tk⟩ h w∧Ext G w ⟨fun b o=>G.St b o∨E.St0 b o,G.bx,G.tk⟩ w:=by
 have he:Ext G w ⟨fun b o=>G.St b o∨E.St0 b o,G.bx,G.tk⟩ w:=⟨fun _ _ h=>⟨.inl h,rfl⟩,fun _ _ h=>h,fun _ n u h=>⟨n,u,h,Av _,fun _=>rfl⟩⟩;refine⟨⟨hr.inpre,hr.kept,?_,?_,hr.bxlen,hr.bxnd,?_,hr.bxown,?_,hr.tklen,?_,hr.tkbx,hr.tknd⟩,he⟩
 ·rintro b o (hs|hs)
  ·exact hr.stlt b o hs
  exact Nat.lt_of_lt_of_le (h0 b o hs).1 hr.kept.size
 ·rintro b o (hs|hs)
  ·exact hr.stnew b o hs
  exact .inl hs
 ·rintro b hb o (hs|hs)
  ·exact hr.bxst b hb o hs
  obtain⟨k1,k2⟩:=h0 b o hs;rcases hr.bxown b hb with e|e
  ·omega
  exact k2 e
 ·intro i b row hi hrow;obtain⟨us,T,h1,h2,h3⟩:=hr.box i b row hi hrow;exact⟨us,T,h1,Dq he _ _ h2,h3⟩
 intro g n u T sz rows hg ht;obtain⟨h1,h2,h3⟩:=hr.tok g n u T sz rows hg ht;refine⟨h1,h2,fun b hb o ho=>?_⟩;rintro(hs|hs)
 ·exact h3 b hb o ho hs
 have:=(hr.toklt hg hb).1;have:=(h0 b o hs).1;omega
def JE(P:Program)(rs:List ResultVar)(n:Nat)(R:AV→List (List AV)→List Cb→Prop)(e:Exit)(s:AS):Prop:=
 (e= .normal∨e= .ret)∧∃xs g r tk',ResA P s rs xs∧JD s.h.tk g=some tk'∧Ap n 1 (DF g (EK xs))=true∧At n 0 (s.h.bx.take n)=true∧LeA (DF g (EK xs)) r∧R r (s.h.bx.take n) tk'
theorem P9{P:Program}{rs:List ResultVar}{n:Nat}{R:AV→List (List AV)→List Cb→Prop}{s:AS}{xs:List AV}{r:AV}(g:Option Nat){tk':List Cb}(h1:ResA P s rs xs)(h2:JD s.h.tk g=some tk')(h3:Ap n 1 (DF g (EK xs))=true)(h4:At n 0 (s.h.bx.take n)=true)(h5:LeA (DF g (EK xs)) r)(h6:R r (s.h.bx.take n) tk'):JE P rs n R .ret s:=
 ⟨.inr rfl,xs,g,r,tk',h1,h2,h3,h4,h5,h6⟩
theorem We{P:Program}{rs:List ResultVar}{n:Nat}{R:AV→List (List AV)→List Cb→Prop}{s:AS}{xs:List AV}{r:AV}(g:Option Nat){tk':List Cb}(h1:ResA P s rs xs)(h2:JD s.h.tk g=some tk')(h3:Ap n 1 (DF g (EK xs))=true)(h4:At n 0 (s.h.bx.take n)=true)(h5:LeA (DF g (EK xs)) r)(h6:R r (s.h.bx.take n) tk'):JE P rs n R .normal s:=
 ⟨.inl rfl,xs,g,r,tk',h1,h2,h3,h4,h5,h6⟩
def KZ:Nat→List AV→List (Nat×AV)
 |_,[]=>[]
 |i,x::xs=>(i,x)::KZ (i+1) xs
theorem S5:∀(xs:List AV) (i t:Nat) (x:AV),look (KZ i xs) t=some x→i≤t∧xs[t - i]?=some x
 |[],_,_,_,h=>by cases h
 |y::xs,i,t,x,h=>by
   simp only[KZ]at h;rw[←J6,Fz]at h;split at h
   ·rename_i e;subst e;injection h with h;subst h;exact⟨Av _,by simp⟩
   rename_i hne;obtain⟨h1,h2⟩:=S5 xs (i+1) t x h;refine⟨by omega,?_⟩;rw[show t - i=(t - (i+1))+1 by omega,List.getElem?_cons_succ];exact h2
theorem Wf{P:Program}{f:FuncId}{fn:Func}{c:Code}{rs:List ResultVar}{xs:List AV}{bx:List (List AV)}{R:AV→List (List AV)→List Cb→Prop}{N:Dim}(hf:P.funcs[f]?=some fn)(hb:fn.body=some c)(hfr:fn.results=rs.toArray)(hN:fn.ntmps=N.n)(hle:Nat.ble xs.length N.n=true)(hni:bx.length=N.ni)(n:Nat)(hn:Nat.ble N.ni n=true)
    (h:Bz P N c (JE P rs n R) ⟨look (KZ 0 xs),⟨bx,[]⟩⟩):ACall P f xs bx R:=by
 intro w St bl vs h1 h2;refine calls_of_wp hf hb ?_;have hvl:=Fx h2;have hlen:xs.length≤N.n:=B6 hle
 have hrel:Rel N ⟨w,bl,St⟩ ⟨look (KZ 0 xs),⟨bx,[]⟩⟩ {tmps:=vs.toArray++Array.replicate (fn.ntmps - vs.toArray.size) undef,defers:=[]} w:=by
  refine⟨_,h1,?_,by simp;omega,rfl,?_⟩
  ·intro t x ht;obtain⟨_,k1⟩:=S5 xs 0 t x ht;rw[Nat.sub_zero]at k1;obtain⟨y,k2,k3⟩:=LN h2 k1
   have:(vs.toArray++Array.replicate (fn.ntmps - vs.toArray.size) undef).getD t undef=y:=by
    have hlt:=(Ai.1 k2).1;rw[Array.getD_eq_getD_getElem?,Array.getElem?_append_left (by simpa using hlt)];simp[k2]
   simp only[this];exact k3
  have:=h1.bxlen;simp only at this;rw[←hni];exact this
 refine wp_mono (h _ _ _ hrel) ?_;rintro e a w' ⟨s,⟨he,xs',g,r,tk',q1,q2,q3,q4,q5,q6⟩,G,r1,r2,r3,r4,r5⟩;obtain⟨v,m1,m2⟩:=q1.results hfr r1 r2;have h0:∀b o,(⟨w,bl,St⟩:Env).St0 b o→b<(⟨w,bl,St⟩:Env).w0.heap.size∧b∉(⟨w,bl,St⟩:Env).ins:=fun b o hs=>⟨h1.stlt b o hs,fun hm=>h1.bxst b hm o hs⟩;have hinl:(⟨w,bl,St⟩:Env).ins.length≤n:=by rw[r5];exact B6 hn
 have hfin:∃G',HRel ⟨w,bl,St⟩ G' ⟨s.h.bx.take n,tk'⟩ w'∧Ext ⟨St,bl,[]⟩ w G' w'∧rep G' w' r v:=by
  have t1:=r1.trunc n 0 hinl q4
  have fin:∀(G1:Gh),G1.St=G.St→G1.bx=G.bx.take n→HRel ⟨w,bl,St⟩ G1 ⟨s.h.bx.take n,tk'⟩ w'→rep G1 w' (DF g (EK xs')) v→∃G',HRel ⟨w,bl,St⟩ G' ⟨s.h.bx.take n,tk'⟩ w'∧Ext ⟨St,bl,[]⟩ w G' w'∧rep G' w' r v:=by
   intro G1 e1 e2 t2 t3;obtain⟨t4,t5⟩:=t2.addSt h0;refine⟨_,t4,⟨fun b o hs=>⟨.inr hs,?_⟩,fun i b hi=>t4.inpre i b hi,fun g n u hg=>by simp at hg⟩,Hc t5 _ _ (q5 _ _ _ t3)⟩;obtain⟨z1,z2⟩:=h0 b o hs;exact World.cell?_of_block (w:=w) (a:=⟨b,o,none⟩) (r1.kept.block b z1 z2)
  cases g with
  |none=>
    simp only[JD,Option.some.injEq]at q2;subst q2;refine fin ⟨G.St,G.bx.take n,[]⟩ rfl rfl (by simpa using t1) ?_;have:=KY n 1 _ _ q3 (P8 (g:=none) (tkl:=[]) (fun k hk=>by cases hk) _ _ m2)
    simpa using this
  |some k=>
    simp only[JD]at q2
    cases hk:s.h.tk[k]? with
    |none=>rw[hk]at q2;cases q2
    |some t=>
      obtain⟨T,sz,rows⟩:=t;rw[hk]at q2;simp at q2;subst q2;have hkl:k<G.tk.length:=by rw[r1.tklen];exact(Ai.1 hk).1
      have hgk:G.tk[k]?=some G.tk[k]:=BM hkl;rcases hp:G.tk[k]with⟨n',u⟩;rw[hp]at hgk;obtain⟨z1,z2,z3⟩:=r1.tok k n' u T sz rows hgk hk;obtain⟨y1,y2⟩:=t1.addTok (T:=T) (sz:=sz) (n:=n') (u:=u) (rows:=rows) ⟨z1,z2,z3⟩ (fun b hb hm=>r1.tkbx k n' u hgk b hb (List.mem_of_mem_take hm)) (fun g' n1 u1 hg'=>by simp at hg');refine fin ⟨G.St,G.bx.take n,[(n',u)]⟩ rfl rfl (by simpa using y1) ?_;have:=KY n 1 _ _ q3 (P8 (g:=some k) (tkl:=[(n',u)]) (fun k' hk'=>by injection hk' with hk';subst hk';exact⟨_,hgk,rfl⟩) _ _ m2)
      simpa using this
 obtain⟨G',f1,f2,f3⟩:=hfin;rcases he with rfl|rfl
 ·exact⟨r4,v,m1,r,_,tk',G',q6,f1,f2,f3⟩
 exact⟨r4,v,m1,r,_,tk',G',q6,f1,f2,f3⟩
end
section
def PA(P:Program)(f:FuncId):Bool:=
 match P.funcs[f]? with
 |some fn=>fn.body.isSome&& !(fn.name== "runtime.NumGoroutine")
 |none=>false
class Fun (P:Program) (f:Nat):Prop where
 eq:PA P f=true
theorem Wg{P:Program}{f:FuncId}(hf:PA P f=true)(args:Array Value)(w:World):(callFunc f args).run P w= .ok (.enter f args) w:=by
 unfold PA at hf
 cases h:P.funcs[f]? with
 |none=>simp[h]at hf
 |some fn=>
   simp only[h,Bool.and_eq_true,Bool.not_eq_true']at hf;obtain⟨h1,h2⟩:=hf;have h3:¬fn.name= "runtime.NumGoroutine":=by simpa using h2
   have h4:fn.body.isNone=false:=by cases hb:fn.body<;>simp[hb]at h1 ⊢
   have h5:¬fn.body=none:=by intro e;simp[e]at h4
   simp[callFunc,h,h3,h5]
def LZ(x y:AV):Prop:=∀(G:Gh) (w:World) (v:Value),rep G w x v→rep ⟨G.St,[],[]⟩ w y v
theorem La(x:AV):LZ x (Cl x):=fun G _ _ h=>Fc (G:=⟨G.St,[],[]⟩) _ _ (FD (G:=G) _ _ h)
theorem Lb(St:Nat→Nat→Prop)(bx:List Nat)(tk:List (Nat×Value))(w:World):Ext ⟨St,[],[]⟩ w ⟨St,bx,tk⟩ w:=⟨fun _ _ h=>⟨h,rfl⟩,fun _ _ h=>by simp at h,fun _ _ _ h=>by simp at h⟩
theorem Wh{w:World}{base base':Nat}{e:TypeId}{size:Nat}{v:Value}{n:Nat}{xs:List Value}(h:w.ownsRow base e size v n xs)(hb:base'≤base):w.ownsRow base' e size v n xs:=by
 refine⟨h.1,?_⟩;rcases h.2 with h'|⟨g,cap,cur,hv,hg,r⟩
 ·exact .inl h'
 exact .inr ⟨g,cap,cur,hv,Nat.le_trans hb hg,r⟩
theorem Lc{x:AV}(h:Gs x=true):LZ x x:=by
 have:=La x
 rwa [Rv x h]at this
theorem NG(sz:Nat):LZ (.v (.slice none 0 0)) (.sl sz [] none):=fun G w v h=>LeA.nil sz _ w v (by simpa only[rep]using h)
inductive Args(ev:Operand→Option AV):List Operand→List AV→Prop
 |nil:Args ev [] []
 |cons (o:Operand) (x y:AV) (l:List Operand) (ys:List AV):ev o=some x→LZ x y→Args ev l ys→Args ev (o::l) (y::ys)
theorem Args.rep{ev:Operand→Option AV}{l:List Operand}{ys:List AV}(h:Args ev l ys){G:Gh}{w:World}{ec:Operand→Value}(he:∀x∈l,∀av,ev x=some av→rep G w av (ec x)):AY ⟨G.St,[],[]⟩ w ys (l.map ec):=by
 induction h with
 |nil=>simp only[List.map_nil,AY]
 |cons o x y l ys h1 h2 _ ih=>
   simp only[List.map_cons,AY];exact⟨_,_,rfl,h2 G w _ (he o (by simp) _ h1),ih fun x hx=>he x (by simp[hx])⟩
theorem PB{E:Env}{G:Gh}{h:AH}{w w':World}(hr:HRel E G h w){Gc:Gh}{bx':List (List AV)}{tk':List Cb}(hc:HRel ⟨w,[],G.St⟩ Gc ⟨bx',tk'⟩ w')(he:Ext ⟨G.St,[],[]⟩ w Gc w')(hbc:At 0 0 bx'=true):
    HRel E ⟨Gc.St,G.bx++Gc.bx,G.tk++Gc.tk⟩ ⟨h.bx++bx',h.tk++tk'⟩ w'∧Ext G w ⟨Gc.St,G.bx++Gc.bx,G.tk++Gc.tk⟩ w':=by
 have hblk:∀k,k<w.heap.size→w'.heap[k]?=w.heap[k]?:=fun k hk=>hc.kept.block k hk (by simp);have hsz:w.heap.size≤w'.heap.size:=hc.kept.size;have hcb:∀b∈Gc.bx,w.heap.size≤b:=fun b hb=>(hc.bxown b hb).resolve_right (by simp)
 have hext:Ext G w ⟨Gc.St,G.bx++Gc.bx,G.tk++Gc.tk⟩ w':=by
  refine⟨fun b o hs=>he.st b o hs,fun i b hi=>by rw[Ca (Ai.1 hi).1];exact hi,fun g n u hg=>⟨n,u,by rw[Ca (Ai.1 hg).1];exact hg,Av _,fun _=>rfl⟩⟩
 have hstc:∀b o,Gc.St b o→b<w.heap.size→G.St b o:=fun b o hs hb=>(hc.stnew b o hs).resolve_right (by simp only;omega)
 have tksplit:∀(g n:Nat) (u:Value),(G.tk++Gc.tk)[g]?=some (n,u)→(g<G.tk.length∧G.tk[g]?=some (n,u))∨(G.tk.length≤g∧Gc.tk[g - G.tk.length]?=some (n,u)):=by
  intro g n u hg;rcases Nat.lt_or_ge g G.tk.length with hlt|hge
  ·rw[Ca hlt]at hg;exact .inl ⟨hlt,hg⟩
  rw[DP hge]at hg;exact .inr ⟨hge,hg⟩
 refine⟨⟨fun i b hi=>hext.bx i b (hr.inpre i b hi),?_,hc.stlt,?_,by simp[hr.bxlen,hc.bxlen],?_,?_,?_,?_,by simp[hr.tklen,hc.tklen],?_,?_,?_⟩,hext⟩
 ·have k:=hr.kept;have k':=hc.kept;exact⟨k'.os.trans k.os,k'.tape.trans k.tape,k'.output.trans k.output,Nat.le_trans k.size hsz,fun i hi hn=>(hblk i (Nat.lt_of_lt_of_le hi k.size)).trans (k.block i hi hn)⟩
 ·intro b o hs;rcases hc.stnew b o hs with h1|h1
  ·exact hr.stnew b o h1
  exact .inr (Nat.le_trans hr.kept.size h1)
 ·refine List.nodup_append.2 ⟨hr.bxnd,hc.bxnd,fun x hx y hy e=>?_⟩;subst e;have:=hr.boxlt hx;have:=hcb x hy;omega
 ·intro b hb o hs;rcases List.mem_append.1 hb with h1|h1
  ·exact hr.bxst b h1 o (hstc b o hs (hr.boxlt h1))
  exact hc.bxst b h1 o hs
 ·intro b hb;rcases List.mem_append.1 hb with h1|h1
  ·exact hr.bxown b h1
  exact .inl (Nat.le_trans hr.kept.size (hcb b h1))
 ·intro i b row hi hrow;rcases Nat.lt_or_ge i G.bx.length with hlt|hge
  ·simp only at hi hrow;rw[Ca hlt]at hi;rw[Ca (by rw[←hr.bxlen];exact hlt)]at hrow;obtain⟨us,T,h1,h2,h3⟩:=hr.box i b row hi hrow;exact⟨us,T,(hblk b (hr.boxlt (Aj hi))).trans h1,Dq hext _ _ h2,h3⟩
  simp only at hi hrow;rw[DP hge]at hi;rw[DP (by rw[←hr.bxlen];exact hge),←hr.bxlen]at hrow;obtain⟨us,T,h1,h2,h3⟩:=hc.box _ b row hi hrow;refine⟨us,T,h1,?_,h3⟩;have:=JB 0 0 _ _ (P7 hbc hrow) h2;refine Dq (Lb Gc.St (G.bx++Gc.bx) (G.tk++Gc.tk) w') _ _ ?_
  simpa using this
 ·intro g n u T sz rows hg ht;simp only at hg ht;rcases tksplit g n u hg with⟨h1,h2⟩|⟨h1,h2⟩
  ·rw[Ca (by rw[←hr.tklen];exact h1)]at ht;obtain⟨k1,⟨xs,k2⟩,k3⟩:=hr.tok g n u T sz rows h2 ht;refine⟨k1,⟨xs,World.ownsRow.kept k2 (w':=w') (row:=none) ⟨hc.kept.os,hc.kept.tape,hc.kept.output,hsz,fun k hk _=>hblk k hk⟩ (by cases u.ownBlock<;>simp)⟩,fun b hb o ho hs=>?_⟩;exact k3 b hb o ho (hstc b o hs (hr.toklt h2 hb).2)
  rw[DP (by rw[←hr.tklen];exact h1),←hr.tklen]at ht;obtain⟨k1,⟨xs,k2⟩,k3⟩:=hc.tok _ n u T sz rows h2 ht;exact⟨k1,⟨xs,Wh k2 hr.kept.size⟩,k3⟩
 ·intro g n u hg b hb hm;rcases tksplit g n u hg with⟨h1,h2⟩|⟨h1,h2⟩
  ·rcases List.mem_append.1 hm with h3|h3
   ·exact hr.tkbx g n u h2 b hb h3
   have:=(hr.toklt h2 hb).2;have:=hcb b h3;omega
  rcases List.mem_append.1 hm with h3|h3
  ·have:=(hc.toklt h2 hb).1;have:=hr.boxlt h3;simp only at *;omega
  exact hc.tkbx _ n u h2 b hb h3
 intro g g' n n' u u' hg hg' hne b hb hb';rcases tksplit g n u hg with⟨h1,h2⟩|⟨h1,h2⟩
 ·rcases tksplit g' n' u' hg' with⟨k1,k2⟩|⟨k1,k2⟩
  ·exact hr.tknd g g' n n' u u' h2 k2 hne b hb hb'
  have:=(hr.toklt h2 hb).2;have:=(hc.toklt k2 hb').1;simp only at *;omega
 rcases tksplit g' n' u' hg' with⟨k1,k2⟩|⟨k1,k2⟩
 ·have:=(hr.toklt k2 hb').2;have:=(hc.toklt h2 hb).1;simp only at *;omega
 exact hc.tknd _ _ n n' u u' h2 k2 (by omega) b hb hb'
theorem NH{E:Env}{G:Gh}{h:AH}{w:World}(hr:HRel E G h w):HRel ⟨w,[],G.St⟩ ⟨G.St,[],[]⟩ ⟨[],[]⟩ w:=by
 refine⟨by simp,⟨rfl,rfl,rfl,Av _,fun _ _ _=>rfl⟩,hr.stlt,fun _ _ h=> .inl h,rfl,by simp,by simp,by simp,by simp,rfl,by simp,by simp,by simp⟩
def AFn(P:Program)(f:FuncId)(xs:List AV)(R:AV→Prop):Prop:=ACall P f xs [] (fun r bx' tk'=>bx'=[]∧tk'=[]∧R r)
def PC(P:Program)(f:FuncId)(xs:List AV)(F:Option Nat→AV)(t:Cb):Prop:=ACall P f xs [] (fun r bx' tk'=>bx'=[]∧tk'=[t]∧r=F (some 0))
def NJ(P:Program)(f:FuncId)(xs:List AV)(row:List AV)(R:AV→List AV→Prop):Prop:=ACall P f xs [row] (fun r bx' tk'=>∃row',bx'=[row']∧tk'=[]∧R r row')
theorem AFn.mono{P:Program}{f:FuncId}{xs:List AV}{R R':AV→Prop}(h:AFn P f xs R)(hR:∀r,R r→R' r):AFn P f xs R':=ACall.mono h fun _ _ _ ⟨h1,h2,h3⟩=>⟨h1,h2,hR _ h3⟩
mutual
def G4(k:Nat):AV→AV
 | .v x=> .v x
 | .agg cs=> .agg (Jl k cs)
 | .tup cs=> .tup (Jl k cs)
 | .sl sz rows none=> .sl sz rows none
 | .sl sz rows (some g)=> .sl sz rows (some (k+g))
 | .fp row=> .fp row
 | .bp i o=> .bp i o
 | .bs i o sz n cap=> .bs i o sz n cap
 | .fn f caps=> .fn f (Jl k caps)
 | .any=> .any
def Jl(k:Nat):List AV→List AV
 |[]=>[]
 |x::xs=>G4 k x::Jl k xs
end
section
variable {G G':Gh}{w:World}{k:Nat}(hst:G'.St=G.St)(hbx:G.bx=[])(htk:∀(g n:Nat) (u:Value),G.tk[g]?=some (n,u)→G'.tk[k+g]?=some (n,u))
include hst hbx htk
mutual
theorem S6:∀(x:AV) (v:Value),rep G w x v→rep G' w (G4 k x) v
 | .v _,_,h=>by simpa only[rep,G4]using h
 | .agg cs,_,h=>by
   simp only[rep,G4]at h ⊢;obtain⟨ys,h1,h2⟩:=h;exact⟨ys,h1,NK cs ys h2⟩
 | .tup cs,_,h=>by
   simp only[rep,G4]at h ⊢;obtain⟨ys,h1,h2⟩:=h;exact⟨ys,h1,NK cs ys h2⟩
 | .sl sz rows none,_,h=>by simp only[rep,G4]at h ⊢;rw[hst];exact h
 | .sl sz rows (some g),_,h=>by
   simp only[rep,G4]at h ⊢;obtain⟨h0,n,u,h1,h2⟩:=h;rw[hst];exact⟨h0,n,u,htk g n u h1,h2⟩
 | .fp _,_,h=>by simp only[rep,G4]at h ⊢;rw[hst];exact h
 | .bp i _,_,h=>by simp only[rep,hbx]at h;obtain⟨b,h1,_⟩:=h;simp at h1
 | .bs i _ _ _ _,_,h=>by simp only[rep,hbx]at h;obtain⟨b,h1,_⟩:=h;simp at h1
 | .fn f caps,_,h=>by
   simp only[rep,G4]at h ⊢;obtain⟨ys,h1,h2⟩:=h;exact⟨ys,h1,NK caps ys h2⟩
 | .any,_,_=>by simp only[rep,G4]
theorem NK:∀(xs:List AV) (vs:List Value),AY G w xs vs→AY G' w (Jl k xs) vs
 |[],_,h=>by have _:=hst;have _:=hbx;have _:=htk;simpa only[AY,Jl]using h
 |x::xs,_,h=>by
   simp only[AY,Jl]at h ⊢;obtain⟨z,zs,h1,h2,h3⟩:=h;exact⟨z,zs,h1,S6 x z h2,NK xs zs h3⟩
end
end
section
variable {P:Program}{ev:Operand→Option AV}{h:AH}{R:AV→AH→Prop}{d:Option Tmp}{ty:TypeId}{pos:String}{af:Array Edge}{gd:Option (Nat×Bool)}{ats:Array TypeId}
theorem Jm{f:FuncId}{l:List Operand}{E:Env}{G:Gh}{w:World}{ec:Operand→Value}[hf:Fun P f]{fo:Operand}{caps:List Value}(hfo:ec fo= .func (.func f) #[] caps.toArray)
    (hc:Calls P f (l.map ec++caps).toArray w fun e w''=>match e with
      | .returned v=>Fits E R G w v w''
      |_=>False):KS P E R G w ((execOp ec ⟨d, .call {callee:= .value fo,args:=l.toArray,argTypes:=ats},ty,pos,af,gd⟩).run P w):=by
 have e:(execOp ec ⟨d, .call {callee:= .value fo,args:=l.toArray,argTypes:=ats},ty,pos,af,gd⟩).run P w= .ok (.enter f (l.map ec++caps).toArray) w:=by
  simp only[execOp,resolve,hfo,Deferred.ofValue,invoke,Sem.run_bind,Sem.run_pure,Result.andThen_ok,List.map_toArray];rw[Wg hf.eq];simp
 rw[e];exact hc
theorem Jn{G:Gh}{w:World}{ec:Operand→Value}{f:FuncId}{caps:List AV}{fo:Operand}(h:rep G w (.fn f caps) (ec fo)):∃cs:List Value,ec fo= .func (.func f) #[] cs.toArray∧AY G w caps cs:=by
 simpa only[rep]using h
theorem S7{E:Env}{G:Gh}{w w':World}{R0:AV→Prop}{v:Value}(hr:HRel E G h w)(hR:∀r,R0 r→R r h)
    (hx:∃r bx' tk' G',(bx'=[]∧tk'=[]∧R0 r)∧HRel ⟨w,[],G.St⟩ G' ⟨bx',tk'⟩ w'∧Ext ⟨G.St,[],[]⟩ w G' w'∧rep G' w' r v):Fits E R G w v w':=by
 obtain⟨r,bx',tk',Gc,⟨rfl,rfl,hR0⟩,h1,h2,h3⟩:=hx;obtain⟨k1,k2⟩:=PB hr h1 h2 rfl;refine⟨r,h,_,hR r hR0,by simpa using k1,k2,?_⟩;have e1:Gc.bx=[]:=DE (by rw[h1.bxlen];rfl);have e2:Gc.tk=[]:=DE (by rw[h1.tklen];rfl);refine Hc (Lb Gc.St (G.bx++Gc.bx) (G.tk++Gc.tk) w') _ _ ?_;have e3:Gc=⟨Gc.St,[],[]⟩:=by cases Gc;simp only at e1 e2;rw[e1,e2]
 rw[e3]at h3;exact h3
theorem Wi{f:FuncId}{l:List Operand}{ys:List AV}{R0:AV→Prop}[Fun P f](hfo:ev (.func f)=some (.fn f []))(ha:Args ev l ys)(hc:AFn P f ys R0)(hR:∀r,R0 r→R r h):AStep P ⟨d, .call {callee:= .value (.func f),args:=l.toArray,argTypes:=ats},ty,pos,af,gd⟩ ev h R:=by
 intro E G w ec hr he;obtain⟨cs,k1,k2⟩:=Jn (he (.func f) (by simp[Op.operands,Call.operands]) _ hfo);simp only[AY]at k2;subst k2;refine Jm k1 ?_;rw[List.append_nil];refine Calls.mono (hc w G.St [] _ (NH hr) (ha.rep fun x hx av hav=>he x (by simp[Op.operands,Call.operands,hx]) av hav)) ?_;intro e w' h3
 cases e with
 |returned v=>exact S7 hr hR h3
 |panicked c=>exact h3.elim
 |outgrown=>exact h3.elim
theorem Wj{f:FuncId}{fo:Operand}{caps cy:List AV}{l:List Operand}{ys zs:List AV}{R0:AV→Prop}[Fun P f](hfo:ev fo=some (.fn f caps))(ha:Args ev l ys)(hcy:JA caps=true)(hz:ys++caps=zs)(hc:AFn P f zs R0)(hR:∀r,R0 r→R r h):AStep P ⟨d, .call {callee:= .value fo,args:=l.toArray,argTypes:=ats},ty,pos,af,gd⟩ ev h R:=by
 subst hz;intro E G w ec hr he;obtain⟨cs,k1,k2⟩:=Jn (he fo (by simp[Op.operands,Call.operands]) _ hfo);refine Jm k1 ?_
 have k3:AY ⟨G.St,[],[]⟩ w caps cs:=by
  have:=J5 (G:=⟨G.St,[],[]⟩) _ _ (Jf (G:=G) _ _ k2)
  rwa [KX _ hcy]at this
 have k4:=ha.rep (G:=G) (w:=w) (ec:=ec) fun x hx av hav=>he x (by simp[Op.operands,Call.operands,hx]) av hav
 have app:∀(xs:List AV) (vs:List Value),AY ⟨G.St,[],[]⟩ w xs vs→AY ⟨G.St,[],[]⟩ w (xs++caps) (vs++cs):=by
  intro xs
  induction xs with
  |nil=>intro vs hv;simp only[AY]at hv;subst hv;simpa using k3
  |cons x xs ih=>
    intro vs hv;simp only[AY]at hv;obtain⟨z,zs,rfl,h1,h2⟩:=hv;simp only[List.cons_append,AY];exact⟨z,_,rfl,h1,ih zs h2⟩
 refine Calls.mono (hc w G.St [] _ (NH hr) (app _ _ k4)) ?_;intro e w' h3
 cases e with
 |returned v=>exact S7 hr hR h3
 |panicked c=>exact h3.elim
 |outgrown=>exact h3.elim
theorem Wl{f:FuncId}{l:List Operand}{ys:List AV}{F:Option Nat→AV}{t:Cb}{n:Nat}{tk':List Cb}[Fun P f](hfo:ev (.func f)=some (.fn f []))(ha:Args ev l ys)(hc:PC P f ys F t)(hF:∀k,G4 k (F (some 0))=F (some k))(hs:SnocAt h.tk t n tk')(hR:R (F (some n)) ⟨h.bx,tk'⟩):
    AStep P ⟨d, .call {callee:= .value (.func f),args:=l.toArray,argTypes:=ats},ty,pos,af,gd⟩ ev h R:=by
 intro E G w ec hr he;obtain⟨cs,k1,k2⟩:=Jn (he (.func f) (by simp[Op.operands,Call.operands]) _ hfo);simp only[AY]at k2;subst k2;refine Jm k1 ?_;rw[List.append_nil];refine Calls.mono (hc w G.St [] _ (NH hr) (ha.rep fun x hx av hav=>he x (by simp[Op.operands,Call.operands,hx]) av hav)) ?_;intro e w' h3
 cases e with
 |returned v=>
   obtain⟨r,bx',tk1,Gc,⟨rfl,rfl,rfl⟩,h1,h2,h3⟩:=h3;obtain⟨m1,m2⟩:=PB hr h1 h2 rfl;obtain⟨e1,e2⟩:=hs.eq;subst e1;subst e2;have e1:Gc.bx=[]:=DE (by rw[h1.bxlen];rfl);refine⟨_,_,_,hR,by simpa using m1,m2,?_⟩;rw[←hF];refine S6 (G:=Gc) (G':=⟨Gc.St,G.bx++Gc.bx,G.tk++Gc.tk⟩) (k:=h.tk.length) rfl e1 (fun g n u hg=>?_) _ _ h3;rw[←hr.tklen];show(G.tk++Gc.tk)[G.tk.length+g]?=_;rw[DP (by omega)]
   simpa using hg
 |panicked c=>exact h3.elim
 |outgrown=>exact h3.elim
end
end
section
variable {P:Program}{N:Dim}{Q:Exit→AS→Prop}{s:AS}{K:AS→Prop}{l:List (Nat×AV)}{hh:AH}{ops:Array Oper}{rest:List Oper}{op:Op}{ty:TypeId}{pos:String}{af:Array Edge}
theorem Wm{c:Operand}{x y:Code}{t:Bool}(hc:CA s.sl c=some (.v (.bool t)))(ht:t=true)(h:Bz P N x Q s):Bz P N (.cond c x y) Q s:=A8 hc (fun _=>h) (fun e=>by rw[ht]at e;cases e)
theorem Wn{c:Operand}{x y:Code}{t:Bool}(hc:CA s.sl c=some (.v (.bool t)))(ht:t=false)(h:Bz P N y Q s):Bz P N (.cond c x y) Q s:=A8 hc (fun e=>by rw[ht]at e;cases e) (fun _=>h)
theorem AJ(h:K s):G0 K Q .normal s:=h
theorem A4(h:Q .ret s):G0 K Q .ret s:=h
theorem Am{i:Nat}(h:Q (.exit i) s):G0 K Q (.exit i) s:=h
theorem Au{id:Nat}(h:Q .normal s):J7 id Q .normal s:=h
theorem AR{id:Nat}(h:Q .ret s):J7 id Q .ret s:=h
theorem A7{d:Nat}(hd:Nat.blt d N.n=true)(h:AStep P ⟨some d,op,ty,pos,af,none⟩ (CA (look l)) hh (fun x h'=>AL P N ops Q rest ⟨look ((d,x)::l),h'⟩)):AL P N ops Q (⟨some d,op,ty,pos,af,none⟩::rest) ⟨look l,hh⟩:=Re (s:=⟨look l,hh⟩) rfl hd h
theorem Ld(h:AStep P ⟨none,op,ty,pos,af,none⟩ (CA (look l)) hh (fun _ h'=>AL P N ops Q rest ⟨look l,h'⟩)):AL P N ops Q (⟨none,op,ty,pos,af,none⟩::rest) ⟨look l,hh⟩:=Re (s:=⟨look l,hh⟩) rfl rfl h
theorem Wo{d j:Nat}{want t:Bool}(hd:Nat.blt d N.n=true)(hy:yv ops (look l) j=some (some t))(ht:(t==want)=false)(h:AL P N ops Q rest ⟨look ((d, .v undef)::l),hh⟩):AL P N ops Q (⟨some d,op,ty,pos,af,some (j,want)⟩::rest) ⟨look l,hh⟩:=
 Rg (s:=⟨look l,hh⟩) (by simp only[CP,hy,ht]) hd h
theorem Wp{d j:Nat}{want:Bool}(hd:Nat.blt d N.n=true)(hy:yv ops (look l) j=some none)(h:AL P N ops Q rest ⟨look ((d, .v undef)::l),hh⟩):AL P N ops Q (⟨some d,op,ty,pos,af,some (j,want)⟩::rest) ⟨look l,hh⟩:=
 Rg (s:=⟨look l,hh⟩) (by simp only[CP,hy]) hd h
theorem Wq{d j:Nat}{want t:Bool}(hd:Nat.blt d N.n=true)(hy:yv ops (look l) j=some (some t))(ht:(t==want)=true)(h:AStep P ⟨some d,op,ty,pos,af,some (j,want)⟩ (CA (look l)) hh (fun x h'=>AL P N ops Q rest ⟨look ((d,x)::l),h'⟩)):AL P N ops Q (⟨some d,op,ty,pos,af,some (j,want)⟩::rest) ⟨look l,hh⟩:=
 WF (s:=⟨look l,hh⟩) (by simp only[CP,hy,ht]) hd h
theorem As{o:Oper}{j:Nat}{t:Bool}(want:Bool)(_hg:o.guard=some (j,want))(_hy:yv ops (look l) j=some (some t))(h1:t=true→AL P N ops Q (o::rest) ⟨look l,hh⟩)(h2:t=false→AL P N ops Q (o::rest) ⟨look l,hh⟩):AL P N ops Q (o::rest) ⟨look l,hh⟩:=by
 cases t with
 |true=>exact h1 rfl
 |false=>exact h2 rfl
theorem BG{t:Bool}(h:t=true):(t==true)=true:=by rw[h];rfl
theorem BH{t:Bool}(h:t=false):(t==false)=true:=by rw[h];rfl
theorem S8{t:Bool}(h:t=true):(t==false)=false:=by rw[h];rfl
theorem S9{t:Bool}(h:t=false):(t==true)=false:=by rw[h];rfl
end
section
variable {P:Program}{ev:Operand→Option AV}{bx:List (List AV)}{tk:List Cb}{R:AV→AH→Prop}{d:Option Tmp}{ty:TypeId}{pos:String}{af:Array Edge}{gd:Option (Nat×Bool)}{ats:Array TypeId}
theorem B3{T:TypeId}{x y:Operand}{sz i o:Nat}{ag:Bool}{av:AV}{row row':List AV}{bx':List (List AV)}[ht:Typ P T sz ag](hx:ev x=some (.bp i o))(hy:ev y=some av)(hb:bx[i]?=some row)
    (h1:FE (CT av)=true) (hl:Nat.beq (CT av).length sz=true) (hpos:Nat.blt 0 sz=true) (hs:SetAt row o (CT av) row') (hset:SetAt bx i [row'] bx') (hR:R (.v undef) ⟨bx',tk⟩):AStep P ⟨d, .store T x y,ty,pos,af,gd⟩ ev ⟨bx,tk⟩ R:=WS (h:=⟨bx,tk⟩) hx hy hb h1 hl hpos hs hset hR
theorem PD{T:TypeId}{x:Operand}{n:Nat}{av:AV}{bx':List (List AV)}(hx:ev x=some av)(h1:FE (CT av)=true)(hs:SnocAt bx (CT av) n bx')(hR:R (.bp n 0) ⟨bx',tk⟩):AStep P ⟨d, .box T x,ty,pos,af,gd⟩ ev ⟨bx,tk⟩ R:=Rp (h:=⟨bx,tk⟩) hx h1 hs hR
theorem PF{T:TypeId}{x:Operand}{n:Nat}{cs:List AV}{bx':List (List AV)}(hx:ev x=some (.agg cs))(h1:FE cs=true)(hs:SnocAt bx cs n bx')(hR:R (.bp n 0) ⟨bx',tk⟩):AStep P ⟨d, .box T x,ty,pos,af,gd⟩ ev ⟨bx,tk⟩ R:=Rp (h:=⟨bx,tk⟩) hx h1 hs hR
theorem CW{T:TypeId}{n:Nat}{row:List AV}{bx':List (List AV)}[hz:Zer P T row](hs:SnocAt bx row n bx')(hR:R (.bp n 0) ⟨bx',tk⟩):AStep P ⟨d, .alloc T,ty,pos,af,gd⟩ ev ⟨bx,tk⟩ R:=WT (h:=⟨bx,tk⟩) hs hR
theorem Eo{T:TypeId}{s y:Operand}{T' sz bytes g:Nat}{rows new:List (List AV)}{tok:Option Nat}{tk':List Cb}[hE:Elm P T T' sz bytes](hs:ev s=some (.sl sz rows (some g)))(hy:ev y=some (.sl sz new tok))(hg:tk[g]?=some (T',sz,rows))
    (hsm:rows.length+new.length≤1000000) (hset:SetAt tk g [(T',sz,rows++new)] tk') (hR:R (.sl sz (rows++new) (some g)) ⟨bx,tk'⟩):AStep P ⟨d, .call {callee:= .builtin .append,args:=#[s,y],argTypes:=#[T,T]},ty,pos,af,gd⟩ ev ⟨bx,tk⟩ R:=WY (h:=⟨bx,tk⟩) hs hy hg hsm hset hR
theorem Ep{T:TypeId}{s y:Operand}{T' sz bytes n:Nat}{new:List (List AV)}{tok:Option Nat}{tk':List Cb}[hE:Elm P T T' sz bytes](hs:ev s=some (.v (.slice none 0 0)))(hy:ev y=some (.sl sz new tok))
    (hsm:new.length≤1000000) (hset:SnocAt tk (T',sz,new) n tk') (hR:R (.sl sz new (some n)) ⟨bx,tk'⟩):AStep P ⟨d, .call {callee:= .builtin .append,args:=#[s,y],argTypes:=#[T,T]},ty,pos,af,gd⟩ ev ⟨bx,tk⟩ R:=WZ (h:=⟨bx,tk⟩) hs hy hsm hset hR
theorem SA{T:TypeId}{x y:Operand}{E sz bytes n:Nat}{c:Int}{tk':List Cb}[hE:Elm P T E sz bytes](hx:ev x=some (.v (.int .i64 0)))(hy:ev y=some (.v (.int .i64 c)))(hc:0≤c∧c≤1000000)
    (hset:SnocAt tk (E,sz,[]) n tk') (hR:R (.sl sz [] (some n)) ⟨bx,tk'⟩):AStep P ⟨d, .makeSlice T x y,ty,pos,af,gd⟩ ev ⟨bx,tk⟩ R:=Wa (h:=⟨bx,tk⟩) hx hy hc hset hR
theorem Wr{f:FuncId}{l:List Operand}{ys:List AV}{F:Option Nat→AV}{t:Cb}{n:Nat}{tk':List Cb}[Fun P f](hfo:ev (.func f)=some (.fn f []))(ha:Args ev l ys)(hc:PC P f ys F t)(hF:∀k,G4 k (F (some 0))=F (some k))(hs:SnocAt tk t n tk')(hR:R (F (some n)) ⟨bx,tk'⟩):
    AStep P ⟨d, .call {callee:= .value (.func f),args:=l.toArray,argTypes:=ats},ty,pos,af,gd⟩ ev ⟨bx,tk⟩ R:=Wl (h:=⟨bx,tk⟩) hfo ha hc hF hs hR
end
theorem enter{P:Program}{f:FuncId}{fn:Func}{c:Code}{rs:List ResultVar}{xs:List AV}{bx:List (List AV)}{R:AV→List (List AV)→List Cb→Prop}{nn ni:Nat}(hf:P.funcs[f]?=some fn)(hb:fn.body=some c)(hfr:fn.results=rs.toArray)(hN:fn.ntmps=nn)(hle:Nat.ble xs.length nn=true)(hni:bx.length=ni)(n:Nat)(hn:Nat.ble ni n=true)
    (h:Bz P ⟨nn,ni⟩ c (JE P rs n R) ⟨look (KZ 0 xs),⟨bx,[]⟩⟩):ACall P f xs bx R:=Wf (N:=⟨nn,ni⟩) hf hb hfr hN hle hni n hn h
end Go.Proofs.YtobclmbkdhbnpaaGreatDoor
