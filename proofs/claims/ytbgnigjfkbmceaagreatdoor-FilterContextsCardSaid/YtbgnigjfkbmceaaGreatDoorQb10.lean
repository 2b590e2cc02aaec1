/-
  Part 10 of the proof of FilterContextsP: what the statement's proof uses of the texts in wip/tpl.
-/
import Derived.Test.YtbgnigjfkbmceaaGreatDoorQb9
open Go.Proofs.Tryz (prog)
set_option maxRecDepth 10000
set_option maxHeartbeats 4000000
set_option linter.unusedVariables false
set_option linter.unusedSimpArgs false
namespace Go.Proofs.YtbgnigjfkbmceaaGreatDoor
open Go.RowKit
def La(f:Af)(a top:AG):Bool:=GN f top 17 a
def Eu:List Int:=[2,20,22]
def FK(a b:Int):Int:=if a=2∨b=2 then 2 else if a=20∨b=20 then 20 else if a=22∨b=22 then 22 else 0
theorem TE{a b:Int}{j:Nat}{x:Int}(hx:Eu[j]?=some x)(ha:∀i y,i<j→Eu[i]?=some y→¬(a=y∨b=y))(h:a=x∨b=x):FK a b=x:=by
 unfold FK
 match j,hx with
 |0,hx=>injection hx with hx;subst hx;rw[if_pos h]
 |1,hx=>
   injection hx with hx;subst hx;rw[if_neg (ha 0 2 (by omega) rfl),if_pos h]
 |2,hx=>
   injection hx with hx;subst hx;rw[if_neg (ha 0 2 (by omega) rfl),if_neg (ha 1 20 (by omega) rfl),if_pos h]
 |j+3,hx=>exact absurd hx (by simp[Eu])
theorem TF(f:Af)(a:AG)(name:AM):CF f a name=0∨CF f a name=2∨CF f a name=20∨CF f a name=22:=by
 unfold CF;split
 ·exact .inr (.inl rfl)
 split
 ·split
  ·exact .inl rfl
  exact .inr (.inr (.inr rfl))
 exact .inr (.inr (.inl rfl))
theorem YE{a b:Int}(ha:∀i y,i<3→Eu[i]?=some y→¬(a=y∨b=y)):FK a b=0:=by
 unfold FK;rw[if_neg (ha 0 2 (by omega) rfl),if_neg (ha 1 20 (by omega) rfl),if_neg (ha 2 22 (by omega) rfl)]
theorem TG{f:Af}{x y:AG}{name name2:AM}(h:FK (CF f x name) (CF f y name2)=0):CF f x name=0∧CF f y name2=0:=by
 unfold FK at h;split at h
 ·omega
 split at h
 ·omega
 split at h
 ·omega
 rename_i h1 h2 h3;have a:=TF f x name;have b:=TF f y name2;omega
def DU(f:Af)(src to:AG)(a o:AG)(e:Int):Int:=
 if e=0 then(if Ax f o=true∧Ax f a=false then 21 else if Ax f o=false∧Ax f a=true then 20 else if Ax f o=true∧Hk f o=false then 39 else 0)else if Gk f to=true∧src≠to then 28 else 0
def KA(ns:List Nod)(src:AG)(name:AM)(to:AG)(name2:AM)(a o:AG)(e:Int):List Nod:=
 if e=0 then Bz (BZ (BZ ns src.2 name 0) to.2 name2 a.2) o.2 else BZ (BZ ns src.2 name 0) to.2 name2 a.2
def Hw(ns:List Nod)(i:Int)(p:Int)(b:Bool):List Nod:=if b=true then CR ns i (fun n=>{n with parent:=p})else ns
def Ef(f:Af)(src:AG)(name:AM)(to:AG)(name2:AM):JR:=
 if FK (CF f src name) (CF f to name2)≠0 then([],[],FK (CF f src name) (CF f to name2))else if(AU f src name).2≠0 then([],[],(AU f src name).2)else if src.1≠to.1 then([],[],18)else
 if Ax f (AU f src name).1=true∧La f to (AU f src name).1=true then([],[],22)else if(AU f to name2).2=0∧(AU f to name2).1=(AU f src name).1 then(f,[],0)else
 if DU f src to (AU f src name).1 (AU f to name2).1 (AU f to name2).2≠0 then([],[],DU f src to (AU f src name).1 (AU f to name2).1 (AU f to name2).2)else
 (GS f to.1.toNat fun ns=>Hw (KA ns src name to name2 (AU f src name).1 (AU f to name2).1 (AU f to name2).2) (AU f src name).1.2 to.2 (Ax f (AU f src name).1),[(src,name,(AU f src name).1,(0,0)),(to,name2,(AU f to name2).1,(AU f src name).1)],0)
theorem YF(f:Af):LeA (.tup [.agg (At f), .v (.slice none 0 0), .v (.int .i64 0)]) (CS (f,[],0)):=LeA.tup (.cons (AZ _) (.cons (LeA.nil 7) (.cons (AZ _) .nil)))
theorem YG{n:Nat}{bx:List (List AV)}{k i j:Nat}{f:Af}{q:Nat}{d:Dvc}{cap cap0 cap1:Nat}(hq:q<f.length)(hc:f.length≤cap)(hc1:d.nodes.length≤cap1)(hni:n≤i)(hnj:n≤j)
    (hi:bx[i]?=some (DB f q d j cap cap1)) (hj:bx[j]?=some (NB d.nodes cap1)):DR (D3 n bx (k+2)) (.agg [.bs i 0 2 f.length cap0])= .agg (At (f.set q d)):=by
 have key:=Ht (n:=n) (bx:=bx) (k:=k) (i:=i) (j:=j) (f:=f.set q d) (K:=q) (d:=d) (cap:=cap) (cap0:=cap0) (cap1:=cap1) (by simp[hq]) (by simpa using hc) hc1 hni hnj (by rw[hi,PK]) hj;rw[List.length_set]at key;exact key
theorem YH{n:Nat}{bx:List (List AV)}{k j sz cap:Nat}{rows:List (List AV)}(hn:n≤j)(hj:bx[j]?=some (CC sz cap rows))(hp:∀r∈rows,∀x∈r,∃v,x= .v v):D3 n bx (k+1) j=some (CC sz cap rows):=by
 have:Nat.blt j n=false:=by rw[←Bool.not_eq_true,Nat.blt_eq];omega
 simp only[D3,this,hj,Option.map_some,LA];rw[LC _ rfl]
 congr 2
 conv=>rhs;rw[←List.map_id rows]
 apply List.map_congr_left;intro r hr
 conv=>rhs;rw[id,←List.map_id r]
 apply List.map_congr_left;intro x hx;obtain⟨v,rfl⟩:=hp r hr x hx;rfl
theorem YJ(l:List Kt):∀r∈l.map EH,∀x∈r,∃v,x= .v v:=by
 intro r hr x hx;obtain⟨c,_,rfl⟩:=List.mem_map.1 hr;simp[EH]at hx;rcases hx with h|h|h|h|h|h|h<;>exact⟨_,h⟩
theorem YK(l:List Kt):∀r∈l.map EH,r.length=7:=by
 intro r hr;obtain⟨c,_,rfl⟩:=List.mem_map.1 hr;rfl
theorem YL{bx:List (List AV)}(bc:List (List AV))(h:∀r∈bc,∀x∈r,∃v,x= .v v):Back bx [] bc (bx++bc):=by
 refine⟨by simp,fun i row _ h=>?_,fun k i row h=>by simp at h,fun k row hk=>?_⟩
 ·rw[CT (Al.1 h).1];exact h
 rw[DC (by omega),show bx.length+k - bx.length=k by omega];simp only[List.length_nil,Nat.zero_add]at hk;rw[hk,Mv]
 congr 1
 conv=>lhs;rw[←List.map_id row]
 apply List.map_congr_left;intro x hx;obtain⟨v,rfl⟩:=h row (B1 hk) x hx;rfl
theorem Pm{d:Dvc}(hd:DS d.nodes){i:Nat}{n0:Nod}(hn:d.nodes[i]?=some n0)(name:AM)(ino:Int):entS d.nodes i n0 name ino=BZ d.nodes n0.ino name ino:=by
 unfold entS BZ;rw[←LX hd hn];rfl
section
theorem YM(d:AG)(name:AM)(o n:AG):ACall prog 233 [.agg (AF d), .v (.string name), .agg (AF o), .agg (AF n)] [] (fun r b t=>t=[]∧r= .bs 3 0 7 1 1∧b=[AF d,AF o,AF n,EH (d,name,o,n)]):=by
 refine enter Tryz.func233 rfl rfl rfl rfl rfl 4 rfl ?_;refine w_ (b_ (h:=b_ (h:=b_ (h:=a_ (h:=e_ (w_ (l_ (h:=m_ (h:=l_ (h:=l_ (h:=AX (h:=?_))))))))))));refine A6 rfl (Vx (k:=3) rfl rfl rfl rfl (by repeat constructor) ?_);refine a_ (h:=e_ (A4 (?_)));refine Av (r:= .bs 3 0 7 1 1) none (h5:=(AZ _)) (h6:=⟨rfl,rfl,rfl⟩)
end
theorem TH{n:Nat}{g:Nat→Option (List AV)}{j sz m cap0 cap:Nat}{rows:List (List AV)}(hn:n≤j)(hg:g j=some (CC sz cap rows))(hr:∀r∈rows,r.length=sz)(hm:m=rows.length)(hc:rows.length≤cap):ED n g (.bs j 0 sz m cap0)= .sl sz rows none:=by
 have:Nat.blt j n=false:=by rw[←Bool.not_eq_true,Nat.blt_eq];omega
 simp only[ED,this];exact PF hg hr hm hc
theorem YN(a b c:AG)(x:Kt):∀r∈[AF a,AF b,AF c,EH x],∀y∈r,∃v,y= .v v:=by
 intro r hr y hy;simp only[List.mem_cons,List.not_mem_nil,or_false]at hr;rcases hr with rfl|rfl|rfl|rfl
 ·simp[AF]at hy;rcases hy with h|h<;>exact⟨_,h⟩
 ·simp[AF]at hy;rcases hy with h|h<;>exact⟨_,h⟩
 ·simp[AF]at hy;rcases hy with h|h<;>exact⟨_,h⟩
 simp[EH]at hy;rcases hy with h|h|h|h|h|h|h<;>exact⟨_,h⟩
theorem TJ{j:Nat}{x:Int}(hx:Eu[j]?=some x):x≠0:=by
 match j,hx with
 |0,hx=>injection hx with hx;omega
 |1,hx=>injection hx with hx;omega
 |2,hx=>injection hx with hx;omega
 |j+3,hx=>exact absurd hx (by simp[Eu])
theorem Pn{ns:List Nod}{i k:Nat}{n0 m:Nod}(hi:ns[i]?=some n0)(hk:ns[k]?=some m)(name:AM)(ino:Int):∃m',(entS ns i n0 name ino)[k]?=some m'∧m'.ino=m.ino∧m'.entries.length≤m.entries.length+1:=by
 unfold entS;rw[List.getElem?_set];split
 ·rename_i e;subst e;rw[hi]at hk;injection hk with hk;subst hk;exact⟨{n0 with entries:=CP n0.entries name ino},by rw[if_pos (Al.1 hi).1],rfl,Pi _ _ _⟩
 exact⟨m,hk,rfl,by omega⟩
theorem TK{ns:List Nod}{i:Nat}{n0:Nod}(hi:ns[i]?=some n0){name:AM}{ino:Int}{m':Nod}(hm:m'∈entS ns i n0 name ino):∃m∈ns,m'.ino=m.ino∧m'.entries.length≤m.entries.length+1:=by
 rcases List.mem_or_eq_of_mem_set hm with h|h
 ·exact⟨m',h,rfl,by omega⟩
 subst h;exact⟨n0,B1 hi,rfl,Pi _ _ _⟩
theorem TL{ns:List Nod}(h:DS ns){i:Nat}{n0:Nod}(hn:ns[i]?=some n0)(name:AM)(ino:Int):DS (entS ns i n0 name ino):=by
 have:=Pm (d:=⟨0,ns⟩) h hn name ino;simp only at this;rw[this];exact K6 h _ _ _
theorem YO(f:Af)(q:Nat)(d d':Dvc)(n:Nod)(i:Nat)(a:AG)(name:AM)(ino:Int)(cap cap1:Nat)(hf:FlsB (f.set q d'))(hq:q<f.length)(ha:a.1=(q:Int))(hi:EO (f.set q d') a=(i:Int))(hn:d'.nodes[i]?=some n)(hcap:f.length≤cap)(hcap1:d'.nodes.length≤cap1)(hnx:d'.next=d.next)(hl:d'.nodes.length=d.nodes.length):
    ACall prog 232 [.agg [.bs 0 0 2 f.length cap], .agg (AF a), .v (.string name), .v (.int .i64 ino)] [DB f q d 1 cap cap1,NB d'.nodes cap1] (fun r b t=>t=[]∧r= .tup []∧b=[DB f q ⟨d.next,entS d'.nodes i n name ino⟩ 1 cap cap1,NB (entS d'.nodes i n name ino) cap1]):=by
 have key:=TA f q d' n i a name ino cap cap1 hf hq ha hi hn hcap hcap1;have e1:DB f q d' 1 cap cap1=DB f q d 1 cap cap1:=by unfold DB EP Ff;rw[hnx,hl]
 have e2:DB f q d 1 cap cap1=DB f q ⟨d.next,entS d'.nodes i n name ino⟩ 1 cap cap1:=by unfold DB EP Ff;rw[FH,hl]
 rw[e1]at key;exact key.mono fun r b t ⟨h1,h2,h3⟩=>⟨h1,h2,by rw[h3,e2]⟩
theorem YP{f:Af}(hv:FlsV f){q:Nat}{d:Dvc}(hq:f[q]?=some d){i i2:Nat}{n1 n2:Nod}(hn1:d.nodes[i]?=some n1)(hn2:d.nodes[i2]?=some n2)(name name2:AM)(ai:Int)(ha:∃m∈d.nodes,m.ino=ai):
    ∃(X1 X2:List Nod) (m2:Nod),X1=entS d.nodes i n1 name 0∧X1[i2]?=some m2∧m2.ino=n2.ino∧X2=entS X1 i2 m2 name2 ai∧DS X1∧DS X2∧X1.length=d.nodes.length∧X2.length=d.nodes.length∧X2=BZ (BZ d.nodes n1.ino name 0) n2.ino name2 ai∧
     FlsB (f.set q ⟨d.next,X1⟩)∧FlsB (f.set q ⟨d.next,X2⟩)∧(∀m∈X2,m.entries.length≤1000)∧(∃m∈X2,m.ino=1)∧∃m∈X2,m.ino=ai:=by
 have hd:=hv.vd d (B1 hq);obtain⟨m2,hm2,hi2,hl2⟩:=Pn hn1 hn2 name 0;have e1:=Pm hd.asc hn1 name 0;have a1:=TL hd.asc hn1 name 0;have e2:=Pm (d:=⟨0,entS d.nodes i n1 name 0⟩) a1 hm2 name2 ai;simp only at e2;have a2:=TL a1 hm2 name2 ai
 have hb2:∀m∈entS (entS d.nodes i n1 name 0) i2 m2 name2 ai,m.entries.length≤1000:=fun m hm=>by
  obtain⟨m',h1,_,h2⟩:=TK hm2 hm;obtain⟨m'',h3,_,h4⟩:=TK hn1 h1;have:=hd.many m'' h3;omega
 have hmem:∀x:Int,(∃m∈d.nodes,m.ino=x)→∃m∈entS (entS d.nodes i n1 name 0) i2 m2 name2 ai,m.ino=x:=by
  rintro x ⟨m,hm,rfl⟩;obtain⟨k,hk⟩:=List.getElem?_of_mem hm;obtain⟨m',h1,h2,_⟩:=Pn hn1 hk name 0;obtain⟨m'',h3,h4,_⟩:=Pn hm2 h1 name2 ai;exact⟨m'',B1 h3,h4.trans h2⟩
 obtain⟨r,hr,hr1,_⟩:=hd.rootMem;refine⟨_,_,m2,rfl,hm2,hi2,rfl,a1,a2,FH _ _ _ _ _,by rw[FH,FH],by rw[e2,e1,hi2],hv.entS hq hn1 name 0,hv.b.set_ ?_ hb2,hb2,hmem 1 ⟨r,hr,hr1⟩,hmem ai ha⟩;show(entS _ _ _ _ _).length≤1000;rw[FH,FH];have:=hd.len;omega
section
theorem YQ(f:Af)(src:AG)(name:AM)(to:AG)(name2:AM)(hv:FlsV f)(hs:name.size≤100000)(hs2:name2.size≤100000):AFn prog 175 [.agg (At f), .agg (AF src), .v (.string name), .agg (AF to), .v (.string name2)] (fun r=>r=CS (Ef f src name to name2)):=by
 have hf:=hv.b;have P1:=Jv f src name hf hs;have P2:=Jv f to name2 hf hs2;have L1:=Hm f src name hf;have L2:=Hm f to name2 hf;obtain⟨pa,hpa⟩:∃x,CF f src name=x:=⟨_,rfl⟩;obtain⟨pb,hpb⟩:∃x,CF f to name2=x:=⟨_,rfl⟩;obtain⟨⟨A,e1⟩,hl1⟩:∃x,AU f src name=x:=⟨_,rfl⟩;obtain⟨⟨O,e2⟩,hl2⟩:∃x,AU f to name2=x:=⟨_,rfl⟩;rw[hpa]at P1;rw[hpb]at P2;rw[hl1]at L1;rw[hl2]at L2;simp only at L1 L2
 have hRen:Ef f src name to name2=(if FK pa pb≠0 then([],[],FK pa pb)else if e1≠0 then([],[],e1)else if src.1≠to.1 then([],[],18)else
     if Ax f A=true∧La f to A=true then([],[],22)else if e2=0∧O=A then(f,[],0)else if DU f src to A O e2≠0 then([],[],DU f src to A O e2)else
     (GS f to.1.toNat fun ns=>Hw (KA ns src name to name2 A O e2) A.2 to.2 (Ax f A),[(src,name,A,(0,0)),(to,name2,O,A)],0)):=by
  unfold Ef;rw[hpa,hpb,hl1,hl2]
 have hol:Eu.length=3:=rfl;refine enter Tryz.func175 rfl rfl rfl rfl rfl 0 rfl ?_;refine w_ (b_ (h:=b_ (h:=b_ (h:=Aa (h:=a_ (h:=a_ (h:=e_ (q_ (Cj 10 (h:=AO 0 (h:=AO 1 (h:=Ac 2 (h:=AO 4 (h:=AO 5 (h:=Ac 6 (h:=?_))))))))))))))));refine c_ 3 rfl (AB (P1) ?_);rintro r rfl;refine o_ (h:=?_);refine c_ 7 rfl (AB (P2) ?_);rintro r rfl;refine o_ (h:=BL 8 (h:=BL 9 (h:=z_ (h:=t_ (w_ (BX (h:=a_ (h:=e_ (q_ (w_ (a_ (h:=e_ (Ab (?_))))))))))))));refine BT (fun m t=>∃j:Nat,j≤Eu.length∧m=Eu.length - j∧(∀i y,i<j→Eu[i]?=some y→¬(pa=y∨pb=y))∧t=⟨look [(2, .v (.string name)),(4, .v (.string name2)),(5, .bp 0 0),(6, .bp 1 0),(8, .bp 2 0),(10, .bp 3 0),(13, .v (.int .i64 pa)),(14, .v (.int .i64 pb)),(15, .sl 1 (Eu.map DD) none),(16, .v (.int .i64 (j:Int)))],⟨[At f,AF src,AF to,[.v (.slice none 0 0)]],[]⟩⟩) (Eu.length) ((wk 4 0)) (⟨0,BR _,rfl,fun i y hi=>by omega,rfl⟩) ?_;rintro m t ⟨j,hj,rfl,ha,rfl⟩;refine q_ (w_ (m_ (h:=m_ (h:=n_ (h:=B4 (h:=e_ (?_)))))));refine A9 rfl (fun hb1=>?_) (fun hb1=>?_)
 ·have hc1:=bp hb1;obtain⟨hlt,x,hx,hrow, -⟩:=Bt DD (l:=Eu) hc1;refine AD (q_ (Ab (w_ (m_ (h:=m_ (h:=m_ (h:=i_ (h:=l_ (h:=AK (h:=m_ (h:=?_)))))))))));refine AT false rfl rfl (fun hb2=>?_) (fun hb2=>?_)
  ·have hc2:=bp hb2;refine A3 (h:=A3 (h:=A3 (h:=A3 (h:=A3 (h:=A3 (h:=AA (h:=e_ (B6 (h:=q_ (?_))))))))));refine Jk (fun _=>True) 8 (by kernel_rfl) ?_;refine BO (i:=0) rfl rfl (by kernel_rfl) (by first|rfl|exact AQ rfl rfl (BC ‹_›)|exact AQ rfl rfl (BD ‹_›)|exact AQ rfl rfl (by simp[*])) (fun h0 hS=>EE ⟨rfl,rfl⟩) trivial ?_;refine BO (i:=1) rfl rfl (by kernel_rfl) (by first|rfl|exact AQ rfl rfl (BC ‹_›)|exact AQ rfl rfl (BD ‹_›)|exact AQ rfl rfl (by simp[*])) (fun h0 hS=>EK rfl ⟨rfl,rfl⟩) trivial ?_;refine BO (i:=2) rfl rfl (by kernel_rfl) (by first|rfl|exact AQ rfl rfl (BC ‹_›)|exact AQ rfl rfl (BD ‹_›)|exact AQ rfl rfl (by simp[*])) (fun h0 hS=>EK rfl ⟨rfl,rfl⟩) trivial ?_;refine BO (i:=3) rfl rfl (by kernel_rfl) (by first|rfl|exact AQ rfl rfl (BC ‹_›)|exact AQ rfl rfl (BD ‹_›)|exact AQ rfl rfl (by simp[*])) (fun h0 hS=>DX rfl rfl rfl (by first|assumption|rfl) ⟨rfl,rfl⟩) trivial ?_;refine BO (i:=4) rfl rfl (by kernel_rfl) (by first|rfl|exact AQ rfl rfl (BC ‹_›)|exact AQ rfl rfl (BD ‹_›)|exact AQ rfl rfl (by simp[*])) (fun h0 hS=>GC rfl rfl ⟨rfl,rfl⟩) trivial ?_;refine Bd 5 rfl (BY rfl rfl rfl rfl rfl rfl (by repeat constructor) (by repeat constructor) ?_);refine⟨.inr trivial,?_⟩;refine BO (i:=6) rfl rfl (by kernel_rfl) (by first|rfl|exact AQ rfl rfl (BC ‹_›)|exact AQ rfl rfl (BD ‹_›)|exact AQ rfl rfl (by simp[*])) (fun h0 hS=>H9 rfl ⟨rfl,rfl⟩) trivial ?_;refine BO (i:=7) rfl rfl (by kernel_rfl) (by first|rfl|exact AQ rfl rfl (BC ‹_›)|exact AQ rfl rfl (BD ‹_›)|exact AQ rfl rfl (by simp[*])) (fun h0 hS=>H9 rfl ⟨rfl,rfl⟩) trivial ?_;refine z_ (h:=t_ (A4 (AN (A8 (A8 (AN (A8 (?_))))))));refine Av (r:=CS (Ef f src name to name2)) none (h5:=?_) (h6:=⟨rfl,rfl,rfl⟩);rw[hRen,show FK pa pb=x from TE hx ha (.inl hc2),if_pos (TJ hx)];exact Cz _
  have hc2:=bp hb2;refine m_ (h:=m_ (h:=m_ (h:=i_ (h:=l_ (h:=AK (h:=AE (h:=e_ (?_))))))));refine A9 rfl (fun hb3=>?_) (fun hb3=>?_)
  ·have hc3:=bp hb3;refine q_ (?_);refine Jk (fun _=>True) 8 (by kernel_rfl) ?_;refine BO (i:=0) rfl rfl (by kernel_rfl) (by first|rfl|exact AQ rfl rfl (BC ‹_›)|exact AQ rfl rfl (BD ‹_›)|exact AQ rfl rfl (by simp[*])) (fun h0 hS=>EE ⟨rfl,rfl⟩) trivial ?_;refine BO (i:=1) rfl rfl (by kernel_rfl) (by first|rfl|exact AQ rfl rfl (BC ‹_›)|exact AQ rfl rfl (BD ‹_›)|exact AQ rfl rfl (by simp[*])) (fun h0 hS=>EK rfl ⟨rfl,rfl⟩) trivial ?_;refine BO (i:=2) rfl rfl (by kernel_rfl) (by first|rfl|exact AQ rfl rfl (BC ‹_›)|exact AQ rfl rfl (BD ‹_›)|exact AQ rfl rfl (by simp[*])) (fun h0 hS=>EK rfl ⟨rfl,rfl⟩) trivial ?_;refine BO (i:=3) rfl rfl (by kernel_rfl) (by first|rfl|exact AQ rfl rfl (BC ‹_›)|exact AQ rfl rfl (BD ‹_›)|exact AQ rfl rfl (by simp[*])) (fun h0 hS=>DX rfl rfl rfl (by first|assumption|rfl) ⟨rfl,rfl⟩) trivial ?_;refine BO (i:=4) rfl rfl (by kernel_rfl) (by first|rfl|exact AQ rfl rfl (BC ‹_›)|exact AQ rfl rfl (BD ‹_›)|exact AQ rfl rfl (by simp[*])) (fun h0 hS=>GC rfl rfl ⟨rfl,rfl⟩) trivial ?_;refine Bd 5 rfl (BY rfl rfl rfl rfl rfl rfl (by repeat constructor) (by repeat constructor) ?_);refine⟨.inr trivial,?_⟩;refine BO (i:=6) rfl rfl (by kernel_rfl) (by first|rfl|exact AQ rfl rfl (BC ‹_›)|exact AQ rfl rfl (BD ‹_›)|exact AQ rfl rfl (by simp[*])) (fun h0 hS=>H9 rfl ⟨rfl,rfl⟩) trivial ?_;refine BO (i:=7) rfl rfl (by kernel_rfl) (by first|rfl|exact AQ rfl rfl (BC ‹_›)|exact AQ rfl rfl (BD ‹_›)|exact AQ rfl rfl (by simp[*])) (fun h0 hS=>H9 rfl ⟨rfl,rfl⟩) trivial ?_;refine z_ (h:=t_ (A4 (AN (A8 (A8 (AN (A8 (?_))))))));refine Av (r:=CS (Ef f src name to name2)) none (h5:=?_) (h6:=⟨rfl,rfl,rfl⟩);rw[hRen,show FK pa pb=x from TE hx ha (.inr hc3),if_pos (TJ hx)];exact Cz _
  have hc3:=bp hb3;refine Aq (Ai (t_ (AR (m_ (h:=B8 (h:=a_ (h:=AP (?_))))))));refine AJ ?_;refine⟨_,_,?_,⟨j+1,hlt,rfl,FA hx ha (not_or.2 ⟨hc2,hc3⟩),rfl⟩,(wk 4 0)⟩;omega
 have hc1:=bp hb1;have e3:=C9 DD (l:=Eu) hj hc1;subst e3;have hord:FK pa pb=0:=YE ha;obtain⟨hpl1,hpl2⟩:=TG (f:=f) (x:=src) (y:=to) (name:=name) (name2:=name2) (by rw[hpa,hpb];exact hord);refine BF (Ah (Ah (BG (t_ (w_ (l_ (h:=l_ (h:=m_ (h:=?_)))))))));refine A6 rfl (AB (L1) ?_);rintro r rfl;refine m_ (h:=x_ (h:=x_ (h:=Aa (h:=s_ (h:=a_ (h:=e_ (q_ (w_ (m_ (h:=Ao (h:=e_ (?_))))))))))));refine A9 rfl (fun hb4=>?_) (fun hb4=>?_)
 ·have hc4:=bp hb4;refine w_ (AX (h:=m_ (h:=s_ (h:=a_ (h:=a_ (h:=e_ (A4 (A8 (?_)))))))));refine Av (r:=CS (Ef f src name to name2)) none (h5:=?_) (h6:=⟨rfl,rfl,rfl⟩);rw[hRen,if_neg (by rw[hord];simp),if_pos hc4];exact Cz _
 have hc4:=bp hb4;have he1:e1=0:=by omega
 refine AD (q_ (w_ (f_ (h:=l_ (h:=f_ (h:=l_ (h:=Ao (h:=e_ (?_)))))))));refine A9 rfl (fun hb5=>?_) (fun hb5=>?_)
 ·have hc5:=bp hb5;refine w_ (AX (h:=s_ (h:=a_ (h:=a_ (h:=e_ (A4 (A8 (?_))))))));refine Av (r:=CS (Ef f src name to name2)) none (h5:=?_) (h6:=⟨rfl,rfl,rfl⟩);rw[hRen,if_neg (by rw[hord];simp),if_neg (by simp[he1]),if_pos hc5];exact Cz _
 have hc5:=bp hb5;refine AD (w_ (l_ (h:=l_ (h:=?_))));refine A6 rfl (AB (Gl f A hf) ?_);rintro r rfl;refine a_ (h:=e_ (?_));refine Bx (fun t=>(Ax f A=true→La f to A=false)∧t=⟨look [(2, .v (.string name)),(4, .v (.string name2)),(5, .bp 0 0),(6, .bp 1 0),(8, .bp 2 0),(10, .bp 3 0),(17, .bp 4 0),(19, .v (.bool (Ax f A)))],⟨[At f,AF src,AF to,[.v (.slice none 0 0)],AF A],[]⟩⟩) ?_ ?_
 ·skip
  refine w_ (m_ (h:=m_ (h:=?_)));refine AT true rfl rfl (fun hb6=>?_) (fun hb6=>?_)
  ·have hc6:=bp hb6;refine l_ (h:=l_ (h:=l_ (h:=?_)));refine B2 (AB (Wn f to A hf) ?_);rintro r rfl;refine AA (h:=e_ (?_));refine A9 rfl (fun hb7=>?_) (fun hb7=>?_)
   ·have hc7:=bp hb7;refine w_ (AX (h:=s_ (h:=a_ (h:=a_ (h:=e_ (A4 (A8 (?_))))))));refine Av (r:=CS (Ef f src name to name2)) none (h5:=?_) (h6:=⟨rfl,rfl,rfl⟩);rw[hRen,if_neg (by rw[hord];simp),if_neg (by simp[he1]),if_neg (by simp[hc5]),if_pos ⟨hc6,hc7⟩];exact Cz _
   have hc7:=bp hb7;have hbl:Ax f A=true→La f to A=false:=fun _=>hc7;refine Aq (?_);refine AJ ?_;exact⟨_,⟨hbl,rfl⟩,(wk 5 0)⟩
  have hc6:=bp hb6;have hbl:Ax f A=true→La f to A=false:=fun h=>absurd (h.symm.trans hc6) (by decide);refine A3 (h:=A3 (h:=A3 (h:=A3 (h:=AE (h:=e_ (Bj (h:=Aq (?_))))))));refine AJ ?_;exact⟨_,⟨hbl,rfl⟩,(wk 5 0)⟩
 rintro t ⟨hbl,rfl⟩;refine w_ (l_ (h:=l_ (h:=m_ (h:=?_))));refine A6 rfl (AB (L2) ?_);rintro r rfl;refine m_ (h:=x_ (h:=x_ (h:=Aa (h:=s_ (h:=a_ (h:=e_ (?_)))))));refine Bx (fun t=>(e2=0→O≠A)∧t=⟨look [(2, .v (.string name)),(4, .v (.string name2)),(5, .bp 0 0),(6, .bp 1 0),(8, .bp 2 0),(10, .bp 3 0),(17, .bp 4 0),(18, .v (.int .i64 e2)),(19, .v (.bool (Ax f A))),(20, .bp 5 0)],⟨[At f,AF src,AF to,[.v (.slice none 0 0)],AF A,AF O],[]⟩⟩) ?_ ?_
 ·skip
  refine w_ (m_ (h:=AK (h:=m_ (h:=?_))));refine AT true rfl rfl (fun hb8=>?_) (fun hb8=>?_)
  ·have hc8:=bp hb8;refine l_ (h:=l_ (h:=?_));refine B2 (E4 rfl rfl (by repeat constructor) (by repeat constructor) (fun w=>Jw _ _ _ _ w) (by kernel_rfl) ?_);refine AA (h:=e_ (?_));refine A9 rfl (fun hb9=>?_) (fun hb9=>?_)
   ·have hc9:=bp hb9;refine w_ (l_ (h:=?_));refine A6 rfl (AB (TD f hf) ?_);rintro r rfl;refine s_ (h:=a_ (h:=a_ (h:=e_ (A4 (A8 (?_))))));refine Av (r:=CS (Ef f src name to name2)) none (h5:=?_) (h6:=⟨rfl,rfl,rfl⟩);rw[hRen,if_neg (by rw[hord];simp),if_neg (by simp[he1]),if_neg (by simp[hc5]),if_neg (fun h=>absurd h.2 (by rw[hbl h.1];decide)),if_pos ⟨hc8,hc9⟩];exact YF _
   have hc9:=bp hb9;have hoa:e2=0→O≠A:=fun _=>hc9;refine Aq (?_);refine AJ ?_;exact⟨_,⟨hoa,rfl⟩,(wk 6 0)⟩
  have hc8:=bp hb8;have hoa:e2=0→O≠A:=fun h=>absurd h hc8;refine A3 (h:=A3 (h:=A3 (h:=AE (h:=e_ (Bj (h:=Aq (?_)))))));refine AJ ?_;exact⟨_,⟨hoa,rfl⟩,(wk 6 0)⟩
 rintro t ⟨hoa,rfl⟩;refine Bx (fun t=>DU f src to A O e2=0∧t=⟨look [(2, .v (.string name)),(4, .v (.string name2)),(5, .bp 0 0),(6, .bp 1 0),(8, .bp 2 0),(10, .bp 3 0),(17, .bp 4 0),(18, .v (.int .i64 e2)),(19, .v (.bool (Ax f A))),(20, .bp 5 0)],⟨[At f,AF src,AF to,[.v (.slice none 0 0)],AF A,AF O],[]⟩⟩) ?_ ?_
 ·skip
  refine w_ (m_ (h:=AK (h:=e_ (?_))));refine A9 rfl (fun hb10=>?_) (fun hb10=>?_)
  ·have hc10:=bp hb10;refine w_ (l_ (h:=l_ (h:=?_)));refine A6 rfl (AB (Gl f O hf) ?_);rintro r rfl;refine a_ (h:=e_ (q_ (w_ (m_ (h:=m_ (h:=?_))))));refine AT true rfl rfl (fun hb11=>?_) (fun hb11=>?_)
   ·have hc11:=bp hb11;refine m_ (h:=B7 (h:=AA (h:=e_ (?_))));refine A9 rfl (fun hb12=>?_) (fun hb12=>?_)
    ·have hc12:=bp hb12;refine w_ (AX (h:=s_ (h:=a_ (h:=a_ (h:=e_ (A4 (A8 (A8 (?_)))))))));refine Av (r:=CS (Ef f src name to name2)) none (h5:=?_) (h6:=⟨rfl,rfl,rfl⟩);have h2:DU f src to A O e2=21:=by unfold DU;simp[hc10,hc11,hc12]
     rw[hRen,if_neg (by rw[hord];simp),if_neg (by simp[he1]),if_neg (by simp[hc5]),if_neg (fun h=>absurd h.2 (by rw[hbl h.1];decide)),if_neg (fun h=>hoa h.1 h.2),h2,if_pos (by decide)];exact Cz _
    have hc12:=bp hb12;refine AD (q_ (w_ (m_ (h:=B7 (h:=m_ (h:=A3 (h:=AE (h:=e_ (Bj (h:=AD (w_ (m_ (h:=m_ (h:=l_ (h:=l_ (h:=?_))))))))))))))));refine B2 (AB (Rs f O hf) ?_);rintro r rfl;refine B7 (h:=AA (h:=e_ (?_)));refine A9 rfl (fun hb13=>?_) (fun hb13=>?_)
    ·have hc13:=bp hb13;refine w_ (AX (h:=s_ (h:=a_ (h:=a_ (h:=e_ (A4 (A8 (?_))))))));refine Av (r:=CS (Ef f src name to name2)) none (h5:=?_) (h6:=⟨rfl,rfl,rfl⟩);have h2:DU f src to A O e2=39:=by unfold DU;simp[hc10,hc11,hc12,hc13]
     rw[hRen,if_neg (by rw[hord];simp),if_neg (by simp[he1]),if_neg (by simp[hc5]),if_neg (fun h=>absurd h.2 (by rw[hbl h.1];decide)),if_neg (fun h=>hoa h.1 h.2),h2,if_pos (by decide)];exact Cz _
    have hc13:=bp hb13;have h2:DU f src to A O e2=0:=by unfold DU;simp[hc10,hc11,hc12,hc13]
    refine Aq (?_);refine AJ ?_;exact⟨_,⟨h2,rfl⟩,(wk 6 0)⟩
   have hc11:=bp hb11;refine A3 (h:=A3 (h:=AE (h:=e_ (Bj (h:=AD (q_ (w_ (m_ (h:=B7 (h:=m_ (h:=m_ (h:=AA (h:=e_ (?_))))))))))))));refine A9 rfl (fun hb14=>?_) (fun hb14=>?_)
   ·have hc14:=bp hb14;refine w_ (AX (h:=s_ (h:=a_ (h:=a_ (h:=e_ (A4 (A8 (A8 (?_)))))))));refine Av (r:=CS (Ef f src name to name2)) none (h5:=?_) (h6:=⟨rfl,rfl,rfl⟩);have h2:DU f src to A O e2=20:=by unfold DU;simp[hc10,hc11,hc14]
    rw[hRen,if_neg (by rw[hord];simp),if_neg (by simp[he1]),if_neg (by simp[hc5]),if_neg (fun h=>absurd h.2 (by rw[hbl h.1];decide)),if_neg (fun h=>hoa h.1 h.2),h2,if_pos (by decide)];exact Cz _
   have hc14:=bp hb14;have h2:DU f src to A O e2=0:=by unfold DU;simp[hc10,hc11,hc14]
   refine AD (w_ (m_ (h:=m_ (h:=A3 (h:=A3 (h:=A3 (h:=A3 (h:=AE (h:=e_ (Bj (h:=Aq (?_))))))))))));refine AJ ?_;exact⟨_,⟨h2,rfl⟩,(wk 6 0)⟩
  have hc10:=bp hb10;refine w_ (l_ (h:=l_ (h:=?_)));refine A6 rfl (AB (Ok f to hf) ?_);rintro r rfl;refine m_ (h:=?_);refine AT true rfl rfl (fun hb15=>?_) (fun hb15=>?_)
  ·have hc15:=bp hb15;refine l_ (h:=l_ (h:=?_));refine B2 (E4 rfl rfl (by repeat constructor) (by repeat constructor) (fun w=>Ru _ _ _ _ w) (by kernel_rfl) ?_);refine AA (h:=e_ (?_));refine A9 rfl (fun hb16=>?_) (fun hb16=>?_)
   ·have hc16:=bp hb16;refine w_ (AX (h:=s_ (h:=a_ (h:=a_ (h:=e_ (A4 (A8 (?_))))))));refine Av (r:=CS (Ef f src name to name2)) none (h5:=?_) (h6:=⟨rfl,rfl,rfl⟩);have h2:DU f src to A O e2=28:=by unfold DU;rw[if_neg hc10,if_pos ⟨hc15,hc16⟩]
    rw[hRen,if_neg (by rw[hord];simp),if_neg (by simp[he1]),if_neg (by simp[hc5]),if_neg (fun h=>absurd h.2 (by rw[hbl h.1];decide)),if_neg (fun h=>hoa h.1 h.2),h2,if_pos (by decide)];exact Cz _
   have hc16:=bp hb16;have h2:DU f src to A O e2=0:=by unfold DU;rw[if_neg hc10,if_neg (fun h=>h.2 hc16)]
   refine Aq (?_);refine AJ ?_;exact⟨_,⟨h2,rfl⟩,(wk 6 0)⟩
  have hc15:=bp hb15;have h2:DU f src to A O e2=0:=by unfold DU;rw[if_neg hc10,if_neg (fun h=>absurd (h.1.symm.trans hc15) (by decide))]
  refine A3 (h:=A3 (h:=A3 (h:=AE (h:=e_ (Bj (h:=Aq (?_)))))));refine AJ ?_;exact⟨_,⟨h2,rfl⟩,(wk 6 0)⟩
 rintro t ⟨h2,rfl⟩;obtain⟨q,i,d,n1,hsq,hq,hn1,hn1i,hidx,hnode,hk1,hnm1⟩:=Fj hpl1;obtain⟨q',i2,d',n2,htq,hq',hn2,hn2i, -,hnode2,hk2,hnm2⟩:=Fj hpl2;obtain rfl:q=q':=by omega
 obtain rfl:d=d':=Option.some.inj (hq.symm.trans hq');have hvd:=hv.vd d (B1 hq);have hql:=(Al.1 hq).1;have hil:=(Al.1 hn1).1;obtain⟨e,he,hle⟩:=LY hnode hk1 (by rw[hl1];exact he1);have hA1:A=(src.1,e.2):=by rw[hl1]at hle;exact congrArg Prod.fst hle
 have hAm:∃m∈d.nodes,m.ino=A.2:=by rw[hA1];exact(hvd.ent n1 (B1 hn1) e (Fv he).1).2.2
 obtain⟨X1,X2,m2,hX1,hm2,hm2i,hX2,hasc1,hasc2,hx1l,hx2l,hX2D,hf1,hf2,hb2,⟨r,hr,hr1⟩,⟨am,ham,hami⟩⟩:=YP hv hq hn1 hn2 name name2 A.2 hAm;have hidx2:EO (f.set q ⟨d.next,X1⟩) to=(i2:Int):=Pl htq (d:=⟨d.next,X1⟩) (by simp[hql]) hasc1 hm2 (hm2i.trans hn2i)
 have hoo:e2=0→O.1=(q:Int)∧0<(CW O.2 X2).length:=by
  intro h;obtain⟨e',he',hle'⟩:=LY hnode2 hk2 (by rw[hl2];exact h);have hO1:O=(to.1,e'.2):=by rw[hl2]at hle';exact congrArg Prod.fst hle'
  refine⟨by rw[hO1];exact htq,Pj hr ?_⟩;rw[hr1,hO1];exact(hvd.ent n2 (B1 hn2) e' (Fv he').1).2.1.symm
 have hO1:e2=0→O.1=A.1:=fun h=>by rw[(hoo h).1,hA1];exact hsq.symm
 obtain⟨NS,hNS⟩:∃NS,NS=(if e2=0 then Bz X2 O.2 else X2):=⟨_,rfl⟩
 have hNSf:NS=X2∨(e2=0∧NS=Bz X2 O.2):=by
  by_cases h:e2=0
  ·exact .inr ⟨h,by rw[hNS,if_pos h]⟩
  exact .inl (by rw[hNS,if_neg h])
 have hsub:NS.Sublist X2:=by
  rcases hNSf with h|⟨_,h⟩
  ·rw[h];exact List.Sublist.refl _
  rw[h];exact List.filter_sublist
 have hasc3:DS NS:=hasc2.sublist hsub
 have hAN:am∈NS:=by
  rcases hNSf with h|⟨h0,h⟩
  ·rw[h];exact ham
  rw[h];refine List.mem_filter.2 ⟨ham,decide_eq_true (.inl fun e=>hoa h0 ?_)⟩;exact Prod.ext (hO1 h0) (by rw[←e,hami])
 obtain⟨i3,hm3⟩:=List.getElem?_of_mem hAN;have hil3:=(Al.1 hm3).1;have hf3:FlsB (f.set q ⟨d.next,NS⟩):=hf.set_ (by have:=hsub.length_le;have:=hvd.len;show NS.length≤1000;omega) fun m hm=>hb2 m (hsub.subset hm);have hidx3:EO (f.set q ⟨d.next,NS⟩) A=(i3:Int):=Pl (by rw[hA1];exact hsq) (d:=⟨d.next,NS⟩) (by simp[hql]) hasc3 hm3 hami;obtain⟨m3,rfl⟩:∃m3,m3=am:=⟨_,rfl⟩;have hm3i:=hami;obtain⟨NS2,hNS2⟩:∃NS2,NS2=Hw NS A.2 to.2 (Ax f A):=⟨_,rfl⟩;refine w_ (l_ (h:=?_));refine A6 rfl (EM [] rfl (.cons _ _ _ _ _ rfl (AZ _) .nil) (by decide) .nil (K1 f q d hf hq (by omega)) ?_);rintro r bc tc ⟨rfl,cap,cap1,hcap,hcap1,rfl,rfl⟩;refine⟨rfl,_,(K7 (n:=6) rfl f q d d.nodes cap cap1:Back _ [] _ [_,_,_,_,_,_,_,_]),?_⟩;have hcx1:X1.length≤cap1:=by omega
 have hcx2:X2.length≤cap1:=by omega
 refine Aa (h:=s_ (h:=e_ (w_ (l_ (h:=l_ (h:=m_ (h:=?_)))))));refine A6 rfl (EM [6,7] rfl (.cons _ _ _ _ _ rfl (AZ _) (.cons _ _ _ _ _ rfl (AZ _) (.cons _ _ _ _ _ rfl (AZ _) (.cons _ _ _ _ _ rfl (AZ _) .nil)))) (by decide) (.cons _ _ _ _ _ rfl (FE (by rfl) _ _ _ _ _) (.cons _ _ _ _ _ rfl (Et _ _ _) .nil)) (LL f q d n1 i src name 0 cap cap1 hf hq hsq hidx hn1 hcap hcap1) ?_);rintro r bc tc ⟨rfl,rfl,rfl⟩;rw[show d.nodes.set i {n1 with entries:=CP n1.entries name 0}=X1 from hX1.symm];refine⟨rfl,_,(K8 (B9 rfl) (B9 rfl) (by decide) f q d X1 cap cap1 cap1:Back _ [6,7] _ [_,_,_,_,_,_,_,_,_]),?_⟩;refine e_ (w_ (l_ (h:=l_ (h:=m_ (h:=f_ (h:=l_ (h:=?_)))))));refine A6 rfl (EM [6,7] rfl (.cons _ _ _ _ _ rfl (AZ _) (.cons _ _ _ _ _ rfl (AZ _) (.cons _ _ _ _ _ rfl (AZ _) (.cons _ _ _ _ _ rfl (AZ _) .nil)))) (by decide) (.cons _ _ _ _ _ rfl (FE (by rfl) _ _ _ _ _) (.cons _ _ _ _ _ rfl (Et _ _ _) .nil)) (YO f q d ⟨d.next,X1⟩ m2 i2 to name2 A.2 cap cap1 hf1 hql htq hidx2 hm2 hcap hcx1 rfl hx1l) ?_);rintro r bc tc ⟨rfl,rfl,rfl⟩;refine⟨rfl,?_⟩;dsimp only;rw[←hX2];refine⟨_,(K8 (B9 rfl) (B9 rfl) (by decide) f q ⟨d.next,X2⟩ X2 cap cap1 cap1:Back _ [6,7] _ [_,_,_,_,_,_,_,_,_]),?_⟩;refine e_ (?_);refine Bx (fun t=>∃capx,NS.length≤capx∧t=⟨look [(2, .v (.string name)),(4, .v (.string name2)),(6, .bp 1 0),(8, .bp 2 0),(10, .bp 3 0),(17, .bp 4 0),(19, .v (.bool (Ax f A))),(20, .bp 5 0),(22, .bp 8 0)],⟨[At f,AF src,AF to,[.v (.slice none 0 0)],AF A,AF O,DB f q ⟨d.next,NS⟩ 7 cap capx,NB NS capx,[.bs 6 0 2 f.length cap]],[]⟩⟩) ?_ ?_
 ·skip
  refine w_ (m_ (h:=AK (h:=e_ (?_))));refine A9 rfl (fun hb17=>?_) (fun hb17=>?_)
  ·have hc17:=bp hb17;have he2:e2=0:=hc17;obtain⟨hoq,hkp⟩:=hoo he2;refine AR (l_ (h:=l_ (h:=?_)));refine A6 rfl (EM [6,7] rfl (.cons _ _ _ _ _ rfl (AZ _) (.cons _ _ _ _ _ rfl (AZ _) .nil)) (by decide) (.cons _ _ _ _ _ rfl (FE (by rfl) _ _ _ _ _) (.cons _ _ _ _ _ rfl (Et _ _ _) .nil)) (Pk f q ⟨d.next,X2⟩ ⟨d.next,X2⟩ O cap cap1 hf2 hql hoq hcap hcx2 hkp rfl rfl) ?_);rintro r bc tc ⟨rfl,rfl,⟨hns,rfl⟩|⟨hns,cap2,hcap2,rfl⟩⟩
   ·refine⟨rfl,_,(Ph (n:=9) rfl (by decide) (by decide) (by decide) f q ⟨d.next,X2⟩ X2 O f.length cap cap cap1 cap1:Back _ [6,7] _ [_,_,_,_,_,_,_,_,_,_,_]),?_⟩;obtain rfl:NS=X2:=by rw[hNS,if_pos (by assumption)];exact hns
    refine AP (?_);refine AJ ?_
    first|exact⟨_,⟨_,hcap2,rfl⟩,Hg [0,1,2,3,4,5,6,11,8] (fun i hi=>absurd hi (Nat.not_lt_zero i)) (by decide) (.cons _ _ _ _ _ rfl rfl (.cons _ _ _ _ _ rfl rfl (.cons _ _ _ _ _ rfl rfl (.cons _ _ _ _ _ rfl rfl (.cons _ _ _ _ _ rfl rfl (.cons _ _ _ _ _ rfl rfl (.cons _ _ _ _ _ rfl (Hs (by rfl) _ _ _ _ _) (.cons _ _ _ _ _ rfl (Fu _ _ _) (.cons _ _ _ _ _ rfl rfl .nil))))))))) (by repeat (first|exact SubK.nil|refine SubK.cons _ _ _ _ rfl (AZ _) ?_))⟩|exact⟨_,⟨_,hcx2,rfl⟩,C4 9 0 (by simp[BK,BB,BA,Bl,Bm,AF,At])⟩
   refine⟨rfl,_,(Pg (n:=9) rfl (by decide) (by decide) (by decide) f q ⟨d.next,CW O.2 X2⟩ X2 (CW O.2 X2) O f.length cap cap cap1 cap2:Back _ [6,7] _ [_,_,_,_,_,_,_,_,_,_,_,_]),?_⟩;have hNSk:NS=CW O.2 X2:=by rw[hNS,if_pos (by assumption)];exact hns
   rw[←hNSk]at hcap2;rw[←hNSk];refine AP (?_);refine AJ ?_
   first|exact⟨_,⟨_,hcap2,rfl⟩,Hg [0,1,2,3,4,5,6,11,8] (fun i hi=>absurd hi (Nat.not_lt_zero i)) (by decide) (.cons _ _ _ _ _ rfl rfl (.cons _ _ _ _ _ rfl rfl (.cons _ _ _ _ _ rfl rfl (.cons _ _ _ _ _ rfl rfl (.cons _ _ _ _ _ rfl rfl (.cons _ _ _ _ _ rfl rfl (.cons _ _ _ _ _ rfl (Hs (by rfl) _ _ _ _ _) (.cons _ _ _ _ _ rfl (Fu _ _ _) (.cons _ _ _ _ _ rfl rfl .nil))))))))) (by repeat (first|exact SubK.nil|refine SubK.cons _ _ _ _ rfl (AZ _) ?_))⟩|exact⟨_,⟨_,hcx2,rfl⟩,C4 9 0 (by simp[BK,BB,BA,Bl,Bm,AF,At])⟩
  have hc17:=bp hb17;have he2:¬e2=0:=hc17;obtain rfl:NS=X2:=by rw[hNS,if_neg he2]
  refine Aq (?_);refine AJ ?_
  first|exact⟨_,⟨_,hcap2,rfl⟩,Hg [0,1,2,3,4,5,6,11,8] (fun i hi=>absurd hi (Nat.not_lt_zero i)) (by decide) (.cons _ _ _ _ _ rfl rfl (.cons _ _ _ _ _ rfl rfl (.cons _ _ _ _ _ rfl rfl (.cons _ _ _ _ _ rfl rfl (.cons _ _ _ _ _ rfl rfl (.cons _ _ _ _ _ rfl rfl (.cons _ _ _ _ _ rfl (Hs (by rfl) _ _ _ _ _) (.cons _ _ _ _ _ rfl (Fu _ _ _) (.cons _ _ _ _ _ rfl rfl .nil))))))))) (by repeat (first|exact SubK.nil|refine SubK.cons _ _ _ _ rfl (AZ _) ?_))⟩|exact⟨_,⟨_,hcx2,rfl⟩,C4 9 0 (by simp[BK,BB,BA,Bl,Bm,AF,At])⟩
 rintro t ⟨capx,hcapx,rfl⟩;refine Bx (fun t=>t=⟨look [(2, .v (.string name)),(4, .v (.string name2)),(6, .bp 1 0),(8, .bp 2 0),(10, .bp 3 0),(17, .bp 4 0),(20, .bp 5 0),(22, .bp 8 0)],⟨[At f,AF src,AF to,[.v (.slice none 0 0)],AF A,AF O,DB f q ⟨d.next,NS⟩ 7 cap capx,NB NS2 capx,[.bs 6 0 2 f.length cap]],[]⟩⟩) ?_ ?_
 ·skip
  refine w_ (m_ (h:=e_ (?_)));refine A9 rfl (fun hb18=>?_) (fun hb18=>?_)
  ·have hc18:=bp hb18;have e4:NS.set i3 {m3 with parent:=to.2}=NS2:=by rw[hNS2,Hw,if_pos hc18,LX hasc3 hm3 (fun n=>{n with parent:=to.2}),hm3i]
   have hset3:SetAt (NB NS capx) (0+i3 * 8+5) [.v (.int .i64 to.2)] (NB NS2 capx):=by
    rw[←e4];exact PH hm3 (by repeat constructor) (by simp)
   refine C3 ([(0,At f),(1,AF src),(2,AF to),(3,[.v (.slice none 0 0)]),(4,AF A),(5,AF O),(6,DB f q ⟨d.next,NS⟩ 7 cap capx),(8,[.bs 6 0 2 f.length cap])]) 15 (h:=Aw 0 (h:=?_))
   first|refine AO 1 (h:=?_)|refine BN 1 rfl (fun _ hS=>Be (row:=DB f q ⟨d.next,NS⟩ 7 cap capx) rfl (kb hS rfl) (GP hql) ⟨rfl,rfl⟩) ?_
   refine Aw 2 (h:=?_)
   first|refine AO 3 (h:=?_)|refine BN 3 rfl (fun _ hS=>Be (row:=DB f q ⟨d.next,NS⟩ 7 cap capx) rfl (kb hS rfl) (GP hql) ⟨rfl,rfl⟩) ?_
   refine BN 4 rfl (fun _ hS=>DQ (m:=q) rfl rfl htq hql ⟨rfl,rfl⟩) ?_;refine Aw 5 (h:=?_)
   first|refine AO 6 (h:=?_)|refine BN 6 rfl (fun _ hS=>Be (row:=DB f q ⟨d.next,NS⟩ 7 cap capx) rfl (kb hS rfl) (GP hql) ⟨rfl,rfl⟩) ?_
   first|refine AO 7 (h:=?_)|refine BN 7 rfl (fun _ hS=>Be (row:=DB f q ⟨d.next,NS⟩ 7 cap capx) rfl (kb hS rfl) (GP hql) ⟨rfl,rfl⟩) ?_
   first|refine AO 8 (h:=?_)|refine BN 8 rfl (fun _ hS=>Be (row:=DB f q ⟨d.next,NS⟩ 7 cap capx) rfl (kb hS rfl) (GP hql) ⟨rfl,rfl⟩) ?_
   refine Aw 10 (h:=?_)
   first|refine AO 11 (h:=?_)|refine BN 11 rfl (fun _ hS=>Be (row:=DB f q ⟨d.next,NS⟩ 7 cap capx) rfl (kb hS rfl) (GP hql) ⟨rfl,rfl⟩) ?_
   refine c_ 9 rfl (Fr 2 rfl (.cons _ _ _ _ _ rfl (LeA.of_eq (YG (d:=⟨d.next,NS⟩) hql hcap hcapx (BR _) (BR _) rfl rfl)) (.cons _ _ _ _ _ rfl (AZ _) .nil)) (Hl (f.set q ⟨d.next,NS⟩) A hf3) ?_);rintro r rfl;refine⟨rfl,?_⟩;refine o_ (h:=?_);refine BN 12 rfl (fun _ hS=>DQ (m:=i3) rfl rfl hidx3 hil3 ⟨rfl,rfl⟩) ?_;refine Aw 13 (h:=?_);refine Bd 14 rfl (BY rfl rfl rfl rfl rfl rfl hset3 (by repeat constructor) ?_);refine o_ (h:=z_ (h:=?_));refine AJ ?_;exact⟨_,rfl,C4 9 0 (by simp[BK,BB,BA,Bl,Bm,AF,At])⟩
  have hc18:=bp hb18;obtain rfl:NS2=NS:=by rw[hNS2,Hw,if_neg (by rw[hc18];decide)]
  refine Aq (?_);refine AJ ?_;exact⟨_,rfl,C4 9 0 (by simp[BK,BB,BA,Bl,Bm,AF,At])⟩
 rintro t rfl;have hl3:NS2.length=NS.length:=by rw[hNS2];unfold Hw;split<;>simp[CR]
 have hcapx2:NS2.length≤capx:=by omega
 refine Bx (fun t=>t=⟨look [(10, .bp 3 0),(11, .sl 7 ([(src,name,A,(0,0)),(to,name2,O,A)].map EH) none),(12, .v (.int .i64 0))],⟨[At f,AF src,AF to,At (f.set q ⟨d.next,NS2⟩)],[]⟩⟩) ?_ ?_
 ·skip
  refine C3 ([(0,At f),(1,AF src),(2,AF to),(4,AF A),(5,AF O),(6,DB f q ⟨d.next,NS⟩ 7 cap capx),(7,NB NS2 capx),(8,[.bs 6 0 2 f.length cap])]) 15 (h:=AO 0 (h:=AO 1 (h:=Ac 2 (h:=AO 3 (h:=?_)))));refine BN 4 rfl (fun _ hS=>GG (y:= .agg (AF (0,0))) (EE ⟨rfl,rfl⟩) (by repeat (first|exact AZ _|exact LeA.nil _|exact LeL.refl _|refine LeA.agg ⟨rfl,rfl⟩|refine LeA.tup ⟨rfl,rfl⟩|exact LeL.nil|refine LeL.cons ⟨rfl,rfl⟩ ⟨rfl,rfl⟩|exact LeA.any _)) ⟨rfl,rfl⟩) ?_;refine AO 6 (h:=Ac 7 (h:=AO 8 (h:=AO 9 (h:=?_))));refine c_ 5 rfl (EM [] rfl (.cons _ _ _ _ _ rfl (AZ _) (.cons _ _ _ _ _ rfl (AZ _) (.cons _ _ _ _ _ rfl (AZ _) (.cons _ _ _ _ _ rfl (AZ _) .nil)))) (by decide) .nil (YM src name A (0,0)) ?_);rintro r bc tc ⟨rfl,rfl,rfl⟩;refine⟨rfl,_,(YL _ (YN _ _ _ _):Back _ [] _ [_,_,_,_,_,_,_,_,_,_,_,_,_]),?_⟩;refine o_ (h:=?_);refine c_ 10 rfl (AB (JT to name2 O A) ?_);rintro r rfl;refine o_ (h:=?_);refine c_ 11 rfl (OU rfl rfl rfl (B9 rfl) N3 (by omega) (by omega) (fun h=>absurd h (by omega)) ?_);rintro hg cap4 k bx2 hcp4 hs;obtain⟨rfl,rfl⟩:k=13∧bx2=[_,_,_,_,_,_,_,_,_,_,_,_,_,CC 7 cap4 ([(src,name,A,(0,0)),(to,name2,O,A)].map EH)]:=hs.eq;refine o_ (h:=?_);refine Bd 12 rfl (BY rfl rfl rfl rfl rfl rfl (by repeat constructor) (by repeat constructor) ?_);refine o_ (h:=BL 13 (h:=BL 14 (h:=z_ (h:=?_))));refine AJ ?_;exact⟨_,rfl,F7 4 2 rfl (congrArg (fun x=>[At f,AF src,AF to,x]) (Fh (k:=0) (i:=6) (j:=7) (d:=⟨d.next,NS⟩) (d':=⟨d.next,NS2⟩) hql rfl hl3 hcap hcapx2 (B9 rfl) (B9 rfl) rfl rfl)) (.cons _ _ _ _ rfl (AZ _) (.cons _ _ _ _ rfl (LeA.of_eq (TH (rows:=[(src,name,A,(0,0)),(to,name2,O,A)].map EH) (B9 rfl) (YH (n:=4) (k:=1) (j:=13) (B9 rfl) rfl (YJ _)) (YK _) rfl hcp4)) (.cons _ _ _ _ rfl (AZ _) .nil)))⟩
 rintro t rfl;refine A4 (?_);refine A7 ?_;rw[hRen,if_neg (by rw[hord];simp),if_neg (by simp[he1]),if_neg (by simp[hc5]),if_neg (fun h=>absurd h.2 (by rw[hbl h.1];decide)),if_neg (fun h=>hoa h.1 h.2),if_neg (by rw[h2];simp),htq,Int.toNat_natCast,Fi hq,show KA d.nodes src name to name2 A O e2=NS by rw[hNS,hX2D,hn1i,hn2i];rfl,←hNS2];rfl
end
end Go.Proofs.YtbgnigjfkbmceaaGreatDoor
namespace Go.Proofs.YtbgnigjfkbmceaaGreatDoor
theorem FlsV.set_{f:Af}(h:FlsV f){q:Nat}{d':Dvc}(hd:VD d'):FlsV (f.set q d'):=by
 refine⟨by simpa using h.few,fun d hm=>?_⟩;rcases List.mem_or_eq_of_mem_set hm with h1|h1
 ·exact h.vd d h1
 rw[h1];exact hd
theorem Lb{f:Af}{a:AG}(h:Ck f a=true):∃(q i:Nat) (d:Dvc) (m:Nod),a.1=(q:Int)∧f[q]?=some d∧d.nodes[i]?=some m∧m.ino=a.2∧Bp f a=some m∧Au f a=m:=by
 rcases Gi f a with⟨_,h2⟩|⟨q,i,d,n,h1,h2,h3,h4,h5,h6⟩
 ·simp[Ck,h2]at h
 exact⟨q,i,d,n,h1,h2,h3,h4,h6,by simp[Au,h6]⟩
theorem Po{f:Af}{a:AG}{q:Nat}{d:Dvc}{m:Nod}(ha:a.1=(q:Int))(hq:f[q]?=some d)(hd:DS d.nodes)(hm:m∈d.nodes)(hi:m.ino=a.2):Bp f a=some m:=by
 unfold Bp;rw[ha,JP,hq];simp only
 cases h:d.nodes.find? (fun n=>n.ino==a.2)with
 |none=>
   have:=List.find?_eq_none.1 h m hm;simp[hi]at this
 |some n=>
   have h1:=List.mem_of_find?_eq_some h;have h2:=List.find?_some h;simp only[beq_iff_eq]at h2;rw[Cy hd h1 hm (by omega)]
theorem NA{f:Af}{dir:AG}{name:AM}{n0:Nod}(hn:Bp f dir=some n0)(hk:n0.kind=2)(h:(AU f dir name).2≠0):Cx n0.entries name=none∧(AU f dir name).1=(0,0):=by
 unfold AU at h ⊢;rw[hn]at h ⊢;simp only[hk,if_true]at h ⊢;unfold Cx;split at h
 ·rename_i he;exact⟨he,rfl⟩
 exact absurd rfl h
theorem Pp{f:Af}{dir:AG}{n0:Nod}(hn:Bp f dir=some n0)(h:¬Gk f dir=true):n0.entries.length<12:=by
 unfold Gk at h;rw[hn]at h;simp at h;omega
theorem Lc(f:Af)(q:Nat)(g:List Nod→List Nod):(GS f q g).length=f.length:=by simp[GS]
def KC(f:Af)(R:JR):Prop:=R.2.2=0→FlsV R.1∧R.1.length=f.length
theorem Db{f:Af}{e:Int}(h:e≠0):KC f ([],[],e):=fun h0=>absurd h0 h
theorem KD{f:Af}(hv:FlsV f)(dir:AG)(name:AM)(a:AG):KC f (ER f dir name a):=by
 unfold ER;split
 ·rename_i h;exact Db h
 rename_i hp;split
 ·exact Db (by decide)
 rename_i hh;split
 ·exact Db (by decide)
 rename_i hdev;split
 ·exact Db (by decide)
 rename_i hk;split
 ·exact Db (by decide)
 rename_i hl;split
 ·exact Db (by decide)
 rename_i hfl;intro _;obtain⟨q,i,d,n0,hdq,hq,hn0,hino,hidx,hnode,hk0,hnm⟩:=Fj (name:=name) (dir:=dir) (f:=f) (by omega);obtain⟨q',i',d',m,haq,hq',hm,hmi,hnm2,hng⟩:=Lb (f:=f) (a:=a) (by simpa using hh);obtain rfl:q=q':=by omega
 obtain rfl:d=d':=Option.some.inj (hq.symm.trans hq');have hvd:=hv.vd d (B1 hq);have key:=hvd.linked (B1 hn0) hk0 (B1 hm) (by rw[←hng];exact hk) hnm (NA hnode hk0 hl).1 (Pp hnode hfl);rw[hino,hmi]at key;refine⟨?_,by dsimp only;exact Lc _ _ _⟩;dsimp only;rw[hdq,Int.toNat_natCast,Fi hq];exact hv.set_ key
theorem Jc{f:Af}{a:AG}{m:Nod}(h:Bp f a=some m):Ax f a=true↔m.kind=2:=by
 unfold Ax;rw[h];simp
theorem TM{f:Af}{a:AG}{m:Nod}(h:Bp f a=some m):Hk f a=true↔m.entries=[]:=by
 unfold Hk;rw[h];simp
theorem NC{f:Af}(hv:FlsV f){dir:AG}{name:AM}{q i:Nat}{d:Dvc}{n0:Nod}(hdq:dir.1=(q:Int))(hq:f[q]?=some d)(hn0:d.nodes[i]?=some n0)(hnode:Bp f dir=some n0)(hk0:n0.kind=2)(hl:(AU f dir name).2=0):
    ∃e m,Cx n0.entries name=some e∧AU f dir name=((dir.1,e.2),0)∧m∈d.nodes∧e.2=m.ino∧e.2≠1∧Bp f (AU f dir name).1=some m:=by
 obtain⟨e,he,hle⟩:=LY hnode hk0 hl;have hvd:=hv.vd d (B1 hq);obtain⟨_,h1,m,hm,h2⟩:=hvd.ent n0 (B1 hn0) e (Fv he).1;refine⟨e,m,he,hle,hm,h2.symm,h1,?_⟩;rw[hle];exact Po hdq hq hvd.asc hm h2
theorem KE{f:Af}(hv:FlsV f)(dir:AG)(name:AM):KC f (Fx f dir name):=by
 unfold Fx;split
 ·rename_i h;exact Db h
 rename_i hp;split
 ·rename_i h;exact Db h
 rename_i hl;split
 ·exact Db (by decide)
 rename_i hk;intro _;obtain⟨q,i,d,n0,hdq,hq,hn0,hino,hidx,hnode,hk0,hnm⟩:=Fj (name:=name) (dir:=dir) (f:=f) (by omega);obtain⟨e,m,he,hle,hm,h1,h2,h3⟩:=NC hv hdq hq hn0 hnode hk0 (name:=name) (by omega);have hvd:=hv.vd d (B1 hq);have key:=hvd.removed (B1 hn0) hm (hvd.leaf m hm fun h=>hk ((Jc h3).2 h)).2 he h1;refine⟨?_,by dsimp only;exact Lc _ _ _⟩;dsimp only;rw[hdq,Int.toNat_natCast,Fi hq,show(AU f dir name).1.2=m.ino by rw[hle];exact h1,←hino];exact hv.set_ key
theorem KF{f:Af}(hv:FlsV f)(dir:AG)(name:AM):KC f (FJ f dir name):=by
 unfold FJ;split
 ·rename_i h;exact Db h
 rename_i hp;split
 ·rename_i h;exact Db h
 rename_i hl;split
 ·exact Db (by decide)
 rename_i hk;split
 ·exact Db (by decide)
 rename_i hem;intro _;obtain⟨q,i,d,n0,hdq,hq,hn0,hino,hidx,hnode,hk0,hnm⟩:=Fj (name:=name) (dir:=dir) (f:=f) (by omega);obtain⟨e,m,he,hle,hm,h1,h2,h3⟩:=NC hv hdq hq hn0 hnode hk0 (name:=name) (by omega);have hvd:=hv.vd d (B1 hq);have key:=hvd.removed (B1 hn0) hm ((TM h3).1 (by simpa using hem)) he h1;refine⟨?_,by dsimp only;exact Lc _ _ _⟩;dsimp only;rw[hdq,Int.toNat_natCast,Fi hq,show(AU f dir name).1.2=m.ino by rw[hle];exact h1,←hino];exact hv.set_ key
theorem KG{f:Af}(hv:FlsV f)(a:AG)(mode uid gid:Int):(GT f a mode uid gid).2=0→FlsV (GT f a mode uid gid).1∧(GT f a mode uid gid).1.length=f.length:=by
 unfold GT;split
 ·intro h;exact absurd h (by decide)
 rename_i hh;split
 ·intro h;exact absurd h (by decide)
 rename_i hp;intro _;obtain⟨q,i,d,m,haq,hq,hm,hmi,hnm2,hng⟩:=Lb (f:=f) (a:=a) (by simpa using hh);have hvd:=hv.vd d (B1 hq);have key:=hvd.attrs (B1 hm) mode uid gid (by rw[←hng];simpa using hp);refine⟨?_,by dsimp only;exact Lc _ _ _⟩;dsimp only;rw[haq,Int.toNat_natCast,Fi hq,←hmi];exact hv.set_ key
theorem KH{f:Af}(hv:FlsV f)(dir:AG)(name:AM)(n:Nod):KC f (Ee f dir name n):=by
 unfold Ee;split
 ·rename_i h;exact Db h
 rename_i hp;split
 ·exact Db (by decide)
 rename_i hpl;split
 ·exact Db (by decide)
 rename_i hl;obtain⟨q,i,d,n0,hdq,hq,hn0,hino,hidx,hnode,hk0,hnm⟩:=Fj (name:=name) (dir:=dir) (f:=f) (by omega);have hat:F9 f dir.1=some d:=by rw[hdq,JP,hq]
 rw[hat];simp only;split
 ·exact Db (by decide)
 rename_i hc;intro _;have hvd:=hv.vd d (B1 hq);have hnm2:=hvd.nextM;have key:=hvd.make (B1 hn0) hk0 hnm (NA hnode hk0 hl).1 (n:=n) (by simpa using hpl) (by omega) (by omega) (Pp hnode (fun h=>hc (.inr (.inr h))));refine⟨?_,by simp⟩;dsimp only;rw[hdq,Int.toNat_natCast,←hino];exact hv.set_ key
theorem YR{ns:List Nod}{a o:Int}{g:Nod→Nod}(hi:∀n,(g n).ino=n.ino)(he:∀n,(g n).entries=n.entries):Bz (CR ns a g) o=CR (Bz ns o) a g:=by
 have hc:Bc o (CR ns a g)=Bc o ns:=by
  unfold Bc
  congr 1
  unfold CR;rw[List.flatMap_map]
  congr 1
  funext n
  split
  ·rw[he]
  rfl
 unfold Bz;rw[hc];unfold CR;rw[List.filter_map]
 congr 1
 apply List.filter_congr;intro n _;simp only[Function.comp];split
 ·rw[hi]
 rfl
theorem YS{ns:List Nod}{a:Int}{g:Nod→Nod}(h:∀n∈ns,n.ino=a→g n=n):CR ns a g=ns:=by
 unfold CR
 conv=>rhs;rw[←List.map_id ns]
 apply List.map_congr_left;intro n hn;split
 ·rename_i e;rw[h n hn e];rfl
 rfl
theorem YT{ns:List Nod}{a:Int}{g g':Nod→Nod}(h:∀n∈ns,n.ino=a→g n=g' n):CR ns a g=CR ns a g':=by
 unfold CR;apply List.map_congr_left;intro n hn;split
 ·rename_i e;rw[h n hn e]
 rfl
theorem TN{f:Af}{q:Nat}{d:Dvc}(hq:f[q]?=some d)(hd:DS d.nodes){top:AG}(ht:top.1=(q:Int)):∀(k n:Nat) (a:AG),k<n→a.1=(q:Int)→LV d.nodes k a.2 top.2→GN f top n a=true
 |_,0,_,h,_,_=>by omega
 |0,n+1,a,_,ha,hk=>by
   have e:a.2=top.2:=hk;unfold GN;rw[if_neg (by omega),if_pos (Prod.ext (by omega) e)]
 |k+1,n+1,a,h,ha,hk=>by
   obtain⟨m,hm,h1,h2,h3,h4⟩:=hk;unfold GN;rw[if_neg (by omega)];split
   ·rfl
   have hn:=Po ha hq hd hm h1;refine TN hq hd ht k n _ (by omega) ha ?_;simp only[Au,hn,Option.getD_some];exact h4
theorem KJ{f:Af}(hv:FlsV f)(src:AG)(name:AM)(to:AG)(name2:AM):KC f (Ef f src name to name2):=by
 unfold Ef;split
 ·rename_i h;exact Db h
 rename_i hord;obtain⟨hpl1,hpl2⟩:=TG (f:=f) (x:=src) (y:=to) (name:=name) (name2:=name2) (by omega);split
 ·rename_i h;exact Db h
 rename_i hl1;split
 ·exact Db (by decide)
 rename_i hdev;split
 ·exact Db (by decide)
 rename_i hbel;split
 ·intro _;exact⟨hv,rfl⟩
 rename_i hsame;split
 ·rename_i h;exact Db h
 rename_i hr2;intro _;obtain⟨q,i,d,n1,hsq,hq,hn1,hn1i,hidx,hnode,hk1,hnm1⟩:=Fj hpl1;obtain⟨q',i2,d',n2,htq,hq',hn2,hn2i, -,hnode2,hk2,hnm2⟩:=Fj hpl2;obtain rfl:q=q':=by omega
 obtain rfl:d=d':=Option.some.inj (hq.symm.trans hq');have hvd:=hv.vd d (B1 hq);obtain⟨e,m,he,hle,hm,hem,he1,hmn⟩:=NC hv hsq hq hn1 hnode hk1 (name:=name) (by omega);have hA2:(AU f src name).1.2=m.ino:=by rw[hle];exact hem
 have hmoves:Ax f (AU f src name).1=true↔m.kind=2:=Jc hmn
 have hanc:m.kind=2→¬FG d.nodes n2.ino m.ino:=by
  rintro hmk ⟨k,hk⟩;have hlen:=hvd.anc_len hm hk;have:=hvd.len;refine hbel ⟨hmoves.2 hmk,TN hq hvd.asc (top:=(AU f src name).1) (by rw[hle];exact hsq) k 17 to (by omega) htq ?_⟩;rw[hA2,←hn2i];exact hk
 have hdiff:n1.ino=n2.ino→name≠name2:=by
  rintro h rfl;have est:to=src:=Prod.ext (by omega) (by omega);subst est;exact hsame ⟨by omega,rfl⟩
 have ho:(Cx n2.entries name2=none∧(n2.entries.length<12∨n1.ino=n2.ino)∧(AU f to name2).1.2=0)∨(∃eo o,Cx n2.entries name2=some eo∧o∈d.nodes∧eo.2=(AU f to name2).1.2∧o.ino=(AU f to name2).1.2∧(AU f to name2).1.2≠m.ino∧o.entries=[]):=by
  have hr3:DU f src to (AU f src name).1 (AU f to name2).1 (AU f to name2).2=0:=by omega
  unfold DU at hr3;by_cases h0:(AU f to name2).2=0
  ·right;rw[if_pos h0]at hr3;obtain⟨eo,o,heo,hleo,hom,heoi,heo1,hon⟩:=NC hv htq hq hn2 hnode2 hk2 (name:=name2) h0;have hO2:(AU f to name2).1.2=eo.2:=by rw[hleo]
   refine⟨eo,o,heo,hom,hO2.symm,by rw[hO2,heoi],?_,?_⟩
   ·intro h;refine hsame ⟨h0,Prod.ext ?_ (h.trans hA2.symm)⟩;rw[hleo,hle];exact htq.trans hsq.symm
   have hdo:=Jc hon;by_cases hok:o.kind=2
   ·rw[if_neg (fun h=>by
       rw[if_pos h]at hr3;exact absurd hr3 (by decide))]at hr3
    rw[if_neg (fun h=>by rw[hdo.2 hok]at h;exact absurd h.1 (by decide))]at hr3;split at hr3
    ·exact absurd hr3 (by decide)
    rename_i h5;refine(TM hon).1 ?_
    cases hem2:Hk f (AU f to name2).1 with
    |true=>rfl
    |false=>exact absurd ⟨hdo.2 hok,hem2⟩ h5
   exact(hvd.leaf o hom hok).2
  left;rw[if_neg h0]at hr3;obtain⟨h1,h2⟩:=NA hnode2 hk2 h0;refine⟨h1,?_,by rw[h2]⟩;split at hr3
  ·exact absurd hr3 (by decide)
  rename_i h3;by_cases hfl:Gk f to=true
  ·right;have:src=to:=Classical.byContradiction fun h=>h3 ⟨hfl,h⟩;rw[hn1i,hn2i,this]
  left;exact Pp hnode2 hfl
 have key:=hvd.renamed (B1 hn1) (B1 hn2) hm hk2 he hem hnm2 hdiff hanc ho;refine⟨?_,by dsimp only;exact Lc _ _ _⟩;dsimp only;rw[htq,Int.toNat_natCast,Fi hq]
 have hns:Hw (KA d.nodes src name to name2 (AU f src name).1 (AU f to name2).1 (AU f to name2).2) (AU f src name).1.2 to.2 (Ax f (AU f src name).1)=Bz (DL d.nodes n1.ino n2.ino name name2 m.ino) (AU f to name2).1.2:=by
  rw[←T4,hA2,←hn2i]
  have hY:∀y∈BZ (BZ d.nodes n1.ino name 0) n2.ino name2 m.ino,y.ino=m.ino→y.kind=m.kind:=by
   intro y hy hyi;obtain⟨y1,h1,w1⟩:=E7 hy;obtain⟨y2,h2,w2⟩:=E7 h1;have:y2=m:=Cy hvd.asc h2 hm (by rw[←w2.ino,←w1.ino];exact hyi);rw[w1.kind,w2.kind,this]
  have hpos:∀y∈BZ (BZ d.nodes n1.ino name 0) n2.ino name2 m.ino,1≤y.ino:=by
   intro y hy;obtain⟨y1,h1,w1⟩:=E7 hy;obtain⟨y2,h2,w2⟩:=E7 h1;rw[w1.ino,w2.ino];exact hvd.pos h2
  have hset:Bz (CR (BZ (BZ d.nodes n1.ino name 0) n2.ino name2 m.ino) m.ino (Fw n2.ino)) (AU f to name2).1.2=CR (Bz (BZ (BZ d.nodes n1.ino name 0) n2.ino name2 m.ino) (AU f to name2).1.2) m.ino (Fw n2.ino):=YR (fun n=>by unfold Fw;split<;>rfl) (fun n=>by unfold Fw;split<;>rfl);rw[hset]
  have hN:KA d.nodes src name to name2 (AU f src name).1 (AU f to name2).1 (AU f to name2).2=Bz (BZ (BZ d.nodes n1.ino name 0) n2.ino name2 m.ino) (AU f to name2).1.2:=by
   unfold KA;rw[hA2,←hn1i,←hn2i];split
   ·rfl
   rename_i h0;rw[(NA hnode2 hk2 h0).2];unfold Bz
   symm
   rw[List.filter_eq_self];intro y hy;have:=hpos y hy;exact decide_eq_true (.inl (by show y.ino≠0;omega))
  rw[hN];have hsub:∀y∈Bz (BZ (BZ d.nodes n1.ino name 0) n2.ino name2 m.ino) (AU f to name2).1.2,y∈BZ (BZ d.nodes n1.ino name 0) n2.ino name2 m.ino:=fun y hy=>(LU.1 hy).1;unfold Hw;split
  ·rename_i hmv;refine YT fun y hy hyi=>?_;unfold Fw;rw[if_pos ((hY y (hsub y hy) hyi).trans (hmoves.1 hmv))]
  rename_i hmv;refine(YS fun y hy hyi=>?_).symm;unfold Fw;rw[if_neg (fun h=>hmv (hmoves.2 ((hY y (hsub y hy) hyi).symm.trans h)))]
 rw[hns];exact hv.set_ key
end Go.Proofs.YtbgnigjfkbmceaaGreatDoor
namespace Go.Proofs.YtbgnigjfkbmceaaGreatDoor
open Go.RowKit
def Fy(R:Spc×Int):AV:= .tup [.agg (Aj R.1), .v (.int .i64 R.2)]
def KK:Spc:=⟨[],[]⟩
theorem Hy(e:Int):LeA (.tup [.agg [.v (.slice none 0 0), .v (.slice none 0 0)], .v (.int .i64 e)]) (Fy (KK,e)):=(by repeat (first|exact AZ _|exact LeA.nil _|exact LeL.refl _|refine LeA.agg ?_|refine LeA.tup ?_|exact LeL.nil|refine LeL.cons ?_ ?_|exact LeA.any _))
def D0(s:Spc)(dev:Int)(a:AG):Spc×Int:=
 if dev<1∨(s.files.length:Int)≤dev then(KK,22)else if Ck s.files a=false then(KK,2)else if(Au s.files a).kind≠2 then(KK,20)else if CB s a.1=false∨a.1=dev then(KK,22)else
 if CB s dev=true∨(C5 s a).isSome=true then(KK,16)else(⟨s.files,s.mounts++[(dev,a)]⟩,0)
section
theorem YU(s:Spc)(hs:SpcB s):Jt prog 126 [.agg (Aj s)] (fun g=> .agg [.sl 2 (s.files.map Bo) none, .sl 3 (s.mounts.map Cu) g]) (185,3,s.mounts.map Cu):=by
 have hfew:=hs.few;refine enter Tryz.func126 rfl rfl rfl rfl rfl 0 rfl ?_;refine w_ (b_ (h:=Aa (h:=e_ (q_ (C3 ([(0,Aj s)]) 8 (h:=Aw 0 (h:=?_)))))))
 first|refine AO 1 (h:=?_)|refine BN 1 rfl (fun _ hS=>DZ (row:=Aj s) rfl (kb hS rfl) (B9 rfl) rfl ⟨rfl,rfl⟩) ?_
 refine Aw 3 (h:=?_)
 first|refine AO 4 (h:=?_)|refine BN 4 rfl (fun _ hS=>DZ (row:=Aj s) rfl (kb hS rfl) (B9 rfl) rfl ⟨rfl,rfl⟩) ?_
 refine c_ 2 rfl (AB (TD s.files hs.files) ?_);rintro r rfl;refine o_ (h:=?_)
 first|refine c_ 5 rfl (E2 rfl rfl rfl (by simp;omega) (by repeat constructor) ?_)|refine c_ 5 rfl (E3 rfl rfl (by simp;omega) (by repeat constructor) ?_)
 refine o_ (h:=Fa 6 (h:=?_));refine Bd 7 rfl (BY rfl rfl rfl rfl rfl rfl (by repeat constructor) (by repeat constructor) ?_);refine o_ (h:=z_ (h:=t_ (A4 (?_))));refine Av (some 0) (h5:=(AZ _)) (h6:=⟨rfl,rfl,rfl⟩)
theorem ND(s:Spc)(dev:Int)(a:AG)(hs:SpcB s):AFn prog 76 [.agg (Aj s), .v (.int .i64 dev), .agg (AF a)] (fun r=>r=Fy (D0 s dev a)):=by
 have hfew:=hs.few;refine enter Tryz.func76 rfl rfl rfl rfl rfl 0 rfl ?_;refine w_ (b_ (h:=b_ (h:=Aa (h:=a_ (h:=e_ (q_ (w_ (m_ (h:=B4 (h:=m_ (h:=?_)))))))))));refine AT false rfl rfl (fun hb1=>?_) (fun hb1=>?_)
 ·have hc1:=bp hb1;refine A3 (h:=A3 (h:=A3 (h:=A3 (h:=A3 (h:=A3 (h:=AA (h:=e_ (B6 (h:=w_ (AX (h:=s_ (h:=a_ (h:=e_ (A4 (A8 (?_))))))))))))))));refine Av (r:=Fy (D0 s dev a)) none (h5:=?_) (h6:=⟨rfl,rfl,rfl⟩);rw[D0,if_pos (.inl hc1)];exact Hy _
 have hc1:=bp hb1;refine m_ (h:=f_ (h:=f_ (h:=l_ (h:=n_ (h:=Cm (h:=AE (h:=e_ (?_))))))));refine A9 rfl (fun hb2=>?_) (fun hb2=>?_)
 ·have hc2:=bp hb2;refine w_ (AX (h:=s_ (h:=a_ (h:=e_ (A4 (A8 (?_)))))));refine Av (r:=Fy (D0 s dev a)) none (h5:=?_) (h6:=⟨rfl,rfl,rfl⟩);rw[D0,if_pos (.inr (by rw[List.length_map]at hc2;omega))];exact Hy _
 have hc2:=bp hb2;refine AD (w_ (f_ (h:=l_ (h:=l_ (h:=?_)))));refine A6 rfl (AB (Ec s.files a hs.files) ?_);rintro r rfl;refine m_ (h:=x_ (h:=x_ (h:=Aa (h:=s_ (h:=a_ (h:=e_ (q_ (w_ (m_ (h:=B7 (h:=e_ (?_))))))))))));refine A9 rfl (fun hb3=>?_) (fun hb3=>?_)
 ·have hc3:=bp hb3;refine w_ (AX (h:=s_ (h:=a_ (h:=e_ (A4 (A8 (?_)))))));refine Av (r:=Fy (D0 s dev a)) none (h5:=?_) (h6:=⟨rfl,rfl,rfl⟩);rw[D0,if_neg (by rw[List.length_map]at hc2;omega),if_pos hc3];exact Hy _
 have hc3:=bp hb3;refine AD (q_ (w_ (f_ (h:=l_ (h:=Ao (h:=e_ (?_)))))));refine A9 rfl (fun hb4=>?_) (fun hb4=>?_)
 ·have hc4:=bp hb4;refine w_ (AX (h:=s_ (h:=a_ (h:=e_ (A4 (A8 (?_)))))));refine Av (r:=Fy (D0 s dev a)) none (h5:=?_) (h6:=⟨rfl,rfl,rfl⟩);rw[D0,if_neg (by rw[List.length_map]at hc2;omega),if_neg (by simp[hc3]),if_pos hc4];exact Hy _
 have hc4:=bp hb4;refine AD (q_ (w_ (l_ (h:=f_ (h:=l_ (h:=?_))))));refine A6 rfl (AB (Om s a.1 hs) ?_);rintro r rfl;refine B7 (h:=m_ (h:=?_));refine AT false rfl rfl (fun hb5=>?_) (fun hb5=>?_)
 ·have hc5:=bp hb5;refine A3 (h:=A3 (h:=A3 (h:=A3 (h:=AA (h:=e_ (B6 (h:=w_ (AX (h:=s_ (h:=a_ (h:=e_ (A4 (A8 (?_))))))))))))));refine Av (r:=Fy (D0 s dev a)) none (h5:=?_) (h6:=⟨rfl,rfl,rfl⟩);rw[D0,if_neg (by rw[List.length_map]at hc2;omega),if_neg (by simp[hc3]),if_neg (by simp[hc4]),if_pos (.inl hc5)];exact Hy _
 have hc5:=bp hb5;refine f_ (h:=l_ (h:=m_ (h:=AK (h:=AE (h:=e_ (?_))))));refine A9 rfl (fun hb6=>?_) (fun hb6=>?_)
 ·have hc6:=bp hb6;refine w_ (AX (h:=s_ (h:=a_ (h:=e_ (A4 (A8 (?_)))))));refine Av (r:=Fy (D0 s dev a)) none (h5:=?_) (h6:=⟨rfl,rfl,rfl⟩);rw[D0,if_neg (by rw[List.length_map]at hc2;omega),if_neg (by simp[hc3]),if_neg (by simp[hc4]),if_pos (.inr hc6)];exact Hy _
 have hc6:=bp hb6;refine AD (q_ (w_ (l_ (h:=m_ (h:=?_)))));refine A6 rfl (AB (Om s dev hs) ?_);rintro r rfl;refine m_ (h:=?_);refine AT false rfl rfl (fun hb7=>?_) (fun hb7=>?_)
 ·have hc7:=bp hb7;refine A3 (h:=A3 (h:=A3 (h:=AA (h:=e_ (B6 (h:=w_ (AX (h:=s_ (h:=a_ (h:=e_ (A4 (A8 (?_)))))))))))));refine Av (r:=Fy (D0 s dev a)) none (h5:=?_) (h6:=⟨rfl,rfl,rfl⟩);rw[D0,if_neg (by rw[List.length_map]at hc2;omega),if_neg (by simp[hc3]),if_neg (by simp[hc4]),if_neg (by simp[hc5,hc6]),if_pos (.inl hc7)];exact Hy _
 have hc7:=bp hb7;refine l_ (h:=l_ (h:=?_));refine B2 (AB (WR s a hs) ?_);rintro r rfl;refine AE (h:=e_ (?_));refine A9 rfl (fun hb8=>?_) (fun hb8=>?_)
 ·have hc8:=bp hb8;refine w_ (AX (h:=s_ (h:=a_ (h:=e_ (A4 (A8 (?_)))))));refine Av (r:=Fy (D0 s dev a)) none (h5:=?_) (h6:=⟨rfl,rfl,rfl⟩);rw[D0,if_neg (by rw[List.length_map]at hc2;omega),if_neg (by simp[hc3]),if_neg (by simp[hc4]),if_neg (by simp[hc5,hc6]),if_pos (.inr hc8)];exact Hy _
 have hc8:=bp hb8;refine AD (w_ (l_ (h:=?_)));refine A6 rfl (OM rfl (by repeat (first|exact Args.nil|refine Args.cons _ _ _ _ _ rfl (GE rfl) ?_|refine Args.cons _ _ _ _ _ rfl (Hc _) ?_|refine Args.cons _ _ _ _ _ rfl (Ge _) ?_|refine Args.cons _ _ _ _ _ rfl (Hf rfl (by repeat (first|exact AZ _|exact LeA.nil _|exact LeL.refl _|refine LeA.agg ?_|refine LeA.tup ?_|exact LeL.nil|refine LeL.cons ?_ ?_|exact LeA.any _))) ?_)) (YU s hs) (fun _=>rfl) (by repeat constructor) ?_);refine Aa (h:=s_ (h:=e_ (w_ (f_ (h:=l_ (h:=m_ (h:=l_ (h:=AX (h:=BX (h:=?_))))))))))
 first|refine A6 rfl (E2 rfl rfl rfl (by simp;omega) (by repeat constructor) ?_)|refine A6 rfl (E3 rfl rfl (by simp;omega) (by repeat constructor) ?_)
 refine f_ (h:=s_ (h:=e_ (w_ (l_ (h:=s_ (h:=a_ (h:=e_ (A4 (?_)))))))));refine A7 ?_;rw[D0,if_neg (by rw[List.length_map]at hc2;omega),if_neg (by simp[hc3]),if_neg (by simp[hc4]),if_neg (by simp[hc5,hc6]),if_neg (by simp[hc7,hc8])];simp only[Fy,Aj,List.map_append];rfl
end
theorem TO(z:Int){n:Int}(h:1≤n): -n<z.tmod n∧z.tmod n<n:=⟨Int.lt_tmod_of_pos z (by omega),Int.tmod_lt_of_pos z (by omega)⟩
theorem Fk(a b:ByteArray):(a++b).size=a.size+b.size:=ByteArray.size_append
section
theorem YV(l:List Int):ACall prog 12 [.sl 1 (l.map DD) none] [] (fun r b t=>r= .bp 0 0∧b=[Cc l 0]∧t=[]):=by
 refine enter Tryz.func12 rfl rfl rfl rfl rfl 1 rfl ?_;refine w_ (a_ (h:=e_ (w_ (m_ (h:=AX (h:=b_ (h:=a_ (h:=e_ (A4 (?_))))))))));refine Av none (h5:=(AZ _)) (h6:=⟨rfl,rfl,rfl⟩)
theorem Gn(l:List Int)(a:Nat)(n:Int)(ha:a≤1000000000000)(hn:n≤1000000000000):GenF prog 21 l a [.v (.int .i64 n)] 1 (fun r=>∃k:Int,r= .v (.int .i64 k)∧0≤k∧(1≤n→k<n)∧(n<1→k=0)):=by
 refine enter Tryz.func21 rfl rfl rfl rfl rfl 1 rfl ?_;refine w_ (a_ (h:=e_ (q_ (w_ (m_ (h:=B4 (h:=e_ (?_))))))));refine A9 rfl (fun hb1=>?_) (fun hb1=>?_)
 ·have hc1:=bp hb1;refine w_ (a_ (h:=e_ (A4 (A8 (?_)))));refine Av none (h5:=(AZ _)) (h6:=⟨_,rfl,rfl,a,by omega,rfl,0,rfl,by omega,by omega,by omega⟩)
 have hc1:=bp hb1;refine AD (w_ (m_ (h:=k_ (h:=f_ (h:=l_ (h:=B8 (h:=k_ (h:=f_ (h:=s_ (h:=e_ (w_ (m_ (h:=k_ (h:=f_ (h:=l_ (h:=W8 (h:=a_ (h:=e_ (q_ (q_ (Cj 10 (h:=Ac 0 (h:=Dx 1 (h:=?_))))))))))))))))))))))));refine Aw 2 (h:=AO 3 (h:=Ac 4 (h:=Dx 5 (h:=Aw 6 (h:=AO 7 (h:=Hh 8 (h:=WB 9 (h:=z_ (h:=t_ (?_))))))))));refine A9 rfl (fun hb2=>?_) (fun hb2=>?_)
 ·have hc2:=bp hb2;have hlt:a<l.length:=by simp at hc2;omega
  obtain⟨z,hz⟩:∃z,(l.map DD)[a]?=some (DD z):=⟨l[a],by simp[hlt]⟩;have tz:=TO z (n:=n) (by omega);refine Cj 12 (h:=Ac 0 (h:=Dx 1 (h:=Aw 2 (h:=AO 3 (h:=Ac 4 (h:=Dx 5 (h:=Aw 6 (h:=AO 7 (h:=Oc 8 (h:=?_))))))))));refine Dw (i:=9) rfl (DX (n:=a) rfl rfl (by omega) hz ⟨rfl,rfl⟩) ?_;refine AO 10 (h:=BL 11 (h:=z_ (h:=t_ (w_ (m_ (h:=m_ (h:=?_)))))));refine A6 rfl (Qm rfl rfl (by omega) ?_);refine a_ (h:=e_ (q_ (w_ (m_ (h:=B4 (h:=e_ (?_)))))));refine A9 rfl (fun hb3=>?_) (fun hb3=>?_)
  ·have hc3:=bp hb3;refine AR (m_ (h:=m_ (h:=?_)));refine A6 rfl (JB rfl rfl (by omega) ?_);refine a_ (h:=e_ (w_ (m_ (h:=a_ (h:=e_ (A4 (?_)))))));refine Av none (h5:=(AZ _)) (h6:=⟨_,rfl,rfl,a+1,by omega,rfl,_,rfl,by omega,by omega,by omega⟩)
  have hc3:=bp hb3;refine AD (w_ (m_ (h:=a_ (h:=e_ (A4 (?_))))));refine Av none (h5:=(AZ _)) (h6:=⟨_,rfl,rfl,a+1,by omega,rfl,_,rfl,by omega,by omega,by omega⟩)
 have hc2:=bp hb2;have tz:=TO (IntKind.i64.wrap (((a:Int)+1) * 7)) (n:=n) (by omega);refine AD (w_ (m_ (h:=m_ (h:=?_))));refine A6 rfl (Qm rfl rfl (by omega) ?_);refine a_ (h:=e_ (q_ (w_ (m_ (h:=B4 (h:=e_ (?_)))))));refine A9 rfl (fun hb4=>?_) (fun hb4=>?_)
 ·have hc4:=bp hb4;refine AR (m_ (h:=m_ (h:=?_)));refine A6 rfl (JB rfl rfl (by omega) ?_);refine a_ (h:=e_ (w_ (m_ (h:=a_ (h:=e_ (A4 (?_)))))));refine Av none (h5:=(AZ _)) (h6:=⟨_,rfl,rfl,a+1,by omega,rfl,_,rfl,by omega,by omega,by omega⟩)
 have hc4:=bp hb4;refine AD (w_ (m_ (h:=a_ (h:=e_ (A4 (?_))))));refine Av none (h5:=(AZ _)) (h6:=⟨_,rfl,rfl,a+1,by omega,rfl,_,rfl,by omega,by omega,by omega⟩)
theorem CH(l:List Int)(a:Nat)(lo hi:Int)(ha:a≤1000000000000)(h1: -1000000≤lo)(h2:lo≤hi)(h3:hi≤1000000):GenF prog 47 l a [.v (.int .i64 lo), .v (.int .i64 hi)] 1 (fun r=>∃k:Int,r= .v (.int .i64 k)∧lo≤k∧k≤hi):=by
 refine enter Tryz.func47 rfl rfl rfl rfl rfl 1 rfl ?_;refine w_ (a_ (h:=e_ (w_ (m_ (h:=m_ (h:=m_ (h:=m_ (h:=EN (h:=B8 (h:=?_))))))))));refine A6 rfl (Ag 0 (hc:=Gn l a (hi - lo+1) ha (by omega)) (hR:=?_));rintro r a1 ha1 ⟨k,rfl,k1,k2,k3⟩;refine⟨rfl,_,(by repeat constructor),?_⟩;refine B8 (h:=a_ (h:=e_ (A4 (?_))));refine Av none (h5:=(AZ _)) (h6:=⟨_,rfl,rfl,a1,by omega,rfl,_,rfl,by omega,by omega⟩)
theorem Ce(l:List Int)(a:Nat)(rows:List (List AV))(p:Int→Bool)(ha:a≤1000000000000)(h0:Nat.blt 0 rows.length=true)(h1:Nat.ble rows.length 1000=true)(hp:Mc p rows=true):GenF prog 78 l a [.sl 1 rows none] 1 (fun r=>∃z:Int,r= .v (.int .i64 z)∧p z=true):=by
 have h0':0<rows.length:=B9 h0;have h1':rows.length≤1000:=B9 h1;refine enter Tryz.func78 rfl rfl rfl rfl rfl 1 rfl ?_;refine w_ (a_ (h:=e_ (w_ (m_ (h:=m_ (h:=m_ (h:=n_ (h:=?_))))))));refine A6 rfl (Ag 0 (hc:=Gn l a rows.length ha (by omega)) (hR:=?_));rintro r a1 ha1 ⟨k,rfl,k1,k2,k3⟩;refine⟨rfl,_,(by repeat constructor),?_⟩;obtain⟨m,rfl⟩:=Int.eq_ofNat_of_zero_le k1;obtain⟨z,hz,pz⟩:=RL hp (i:=m) (by omega);refine A6 rfl (DX (n:=m) rfl rfl rfl hz ?_);refine l_ (h:=a_ (h:=e_ (A4 (?_))));refine Av none (h5:=(AZ _)) (h6:=⟨_,rfl,rfl,a1,by omega,rfl,z,rfl,pz⟩)
theorem GU(l:List Int)(a:Nat)(rows:List (List AV))(p:ByteArray→Bool)(ha:a≤1000000000000)(h0:Nat.blt 0 rows.length=true)(h1:Nat.ble rows.length 1000=true)(hp:Md p rows=true):GenF prog 81 l a [.sl 1 rows none] 1 (fun r=>∃z:ByteArray,r= .v (.string z)∧p z=true):=by
 have h0':0<rows.length:=B9 h0;have h1':rows.length≤1000:=B9 h1;refine enter Tryz.func81 rfl rfl rfl rfl rfl 1 rfl ?_;refine w_ (a_ (h:=e_ (w_ (m_ (h:=m_ (h:=m_ (h:=n_ (h:=?_))))))));refine A6 rfl (Ag 0 (hc:=Gn l a rows.length ha (by omega)) (hR:=?_));rintro r a1 ha1 ⟨k,rfl,k1,k2,k3⟩;refine⟨rfl,_,(by repeat constructor),?_⟩;obtain⟨m,rfl⟩:=Int.eq_ofNat_of_zero_le k1;obtain⟨z,hz,pz⟩:=RM hp (i:=m) (by omega);refine A6 rfl (DX (n:=m) rfl rfl rfl hz ?_);refine l_ (h:=a_ (h:=e_ (A4 (?_))));refine Av none (h5:=(AZ _)) (h6:=⟨_,rfl,rfl,a1,by omega,rfl,z,rfl,pz⟩)
theorem Ld(l:List Int)(a:Nat)(ha:a≤100000000000):GenF prog 127 l a [] 2 (fun r=>∃s:ByteArray,r= .v (.string s)∧s.size≤13):=by
 refine enter Tryz.func127 rfl rfl rfl rfl rfl 1 rfl ?_;refine w_ (a_ (h:=e_ (q_ (w_ (m_ (h:=?_))))));refine A6 rfl (Ag 0 (hc:=Gn l _ (20) (by omega) (by omega)) (hR:=?_));rintro r a1 ha1 ⟨k1,rfl,p1,q1,o1⟩;refine⟨rfl,_,(by repeat constructor),?_⟩;refine AK (h:=e_ (?_));refine A9 rfl (fun hb1=>?_) (fun hb1=>?_)
 ·have hc1:=bp hb1;refine w_ (m_ (h:=BX (h:=?_)));refine A6 rfl (Ag 0 (hc:=GU l _ _ (fun s=>decide (s.size≤13)) (by omega) (by rfl) (by rfl) (by rfl)) (hR:=?_));rintro r a2 ha2 ⟨k2,rfl,p2⟩;refine⟨rfl,_,(by repeat constructor),?_⟩;refine a_ (h:=e_ (A4 (A8 (?_))));refine Av none (h5:=(AZ _)) (h6:=⟨_,rfl,rfl,_,?_,rfl,_,rfl,of_decide_eq_true ‹_›⟩)<;>omega
 have hc1:=bp hb1;refine AD (w_ (m_ (h:=BX (h:=?_))));refine A6 rfl (Ag 0 (hc:=GU l _ _ (fun s=>decide (s.size≤13)) (by omega) (by rfl) (by rfl) (by rfl)) (hR:=?_));rintro r a3 ha3 ⟨k3,rfl,p3⟩;refine⟨rfl,_,(by repeat constructor),?_⟩;refine a_ (h:=e_ (A4 (?_)));refine Av none (h5:=(AZ _)) (h6:=⟨_,rfl,rfl,_,?_,rfl,_,rfl,of_decide_eq_true ‹_›⟩)<;>omega
theorem NE(l:List Int)(a:Nat)(ha:a≤50000000000):GenF prog 100 l a [] 20 (fun r=>∃s:ByteArray,r= .v (.string s)∧s.size≤58):=by
 have e1:(⟨#[47]⟩:ByteArray).size=1:=rfl;have e0:(⟨#[]⟩:ByteArray).size=0:=rfl;refine enter Tryz.func100 rfl rfl rfl rfl rfl 1 rfl ?_;refine w_ (a_ (h:=e_ (w_ (a_ (h:=e_ (?_))))));refine Bx (fun s=>∃(b:Nat) (t:ByteArray),b≤a+1∧t.size≤1∧s=⟨look [(0, .bp 0 0),(3, .v (.string t))],⟨[Cc l b],[]⟩⟩) ?_ ?_
 ·skip
  refine w_ (m_ (h:=?_));refine A6 rfl (Ag 0 (hc:=Gn l _ (6) (by omega) (by omega)) (hR:=?_));rintro r a1 ha1 ⟨k1,rfl,p1,q1,o1⟩;refine⟨rfl,_,(by repeat constructor),?_⟩;refine Ba (h:=e_ (?_));refine A9 rfl (fun hb1=>?_) (fun hb1=>?_)
  ·have hc1:=bp hb1;refine AR (a_ (h:=AP (?_)));refine AJ ?_;refine⟨_,⟨_,_,?_,?_,rfl⟩,(wk 1 0)⟩<;>first|omega|exact B9 rfl
  have hc1:=bp hb1;refine Aq (?_);refine AJ ?_;refine⟨_,⟨_,_,?_,?_,rfl⟩,(wk 1 0)⟩<;>first|omega|exact B9 rfl
 rintro s ⟨b,t0,hb,ht0,rfl⟩;refine w_ (m_ (h:=BX (h:=?_)));refine A6 rfl (Ag 0 (hc:=Ce l _ _ (fun z=>decide (0≤z∧z≤4)) (by omega) (by rfl) (by rfl) (by rfl)) (hR:=?_));rintro r a2 ha2 ⟨k2,rfl,p2⟩;refine⟨rfl,_,(by repeat constructor),?_⟩;obtain⟨hz1,hz2⟩:=of_decide_eq_true p2;obtain⟨m,rfl⟩:=Int.eq_ofNat_of_zero_le hz1;refine a_ (h:=e_ (q_ (w_ (a_ (h:=e_ (Ab (?_)))))));refine BT (fun n s=>∃(j b1:Nat) (t:ByteArray),j≤m∧n=m - j∧b1≤b+1+4 * j∧t.size≤1+14 * j∧s=⟨look [(0, .bp 0 0),(3, .v (.string t)),(4, .v (.int .i64 (m:Int))),(5, .v (.int .i64 (j:Int)))],⟨[Cc l b1],[]⟩⟩) (m) ((wk 1 0)) (⟨0,_,t0,by omega,rfl,by omega,by omega,rfl⟩) ?_;rintro n s ⟨j,b1,t,hj,rfl,hb1,ht,rfl⟩;refine q_ (w_ (m_ (h:=m_ (h:=B4 (h:=e_ (?_))))));refine A9 rfl (fun hb2=>?_) (fun hb2=>?_)
 ·have hc2:=bp hb2;refine AD (?_);refine Bx (fun s=>∃(b3:Nat) (t1:ByteArray),b3≤b1+4∧t1.size≤1+14 * (j+1)∧s=⟨look [(0, .bp 0 0),(3, .v (.string t1)),(4, .v (.int .i64 (m:Int))),(5, .v (.int .i64 (j:Int)))],⟨[Cc l b3],[]⟩⟩) ?_ ?_
  ·skip
   refine Ab (q_ (w_ (m_ (h:=Ba (h:=e_ (?_))))));refine A9 rfl (fun hb3=>?_) (fun hb3=>?_)
   ·have hc3:=bp hb3;refine AR (m_ (h:=?_));refine A6 rfl (EC rfl rfl (by(try simp only[Fk]);omega) ?_);refine a_ (h:=e_ (w_ (m_ (h:=?_))));refine A6 rfl (Ag 0 (hc:=Gn l _ (8) (by omega) (by omega)) (hR:=?_));rintro r a3 ha3 ⟨k3,rfl,p3,q3,o3⟩;refine⟨rfl,_,(by repeat constructor),?_⟩;refine AK (h:=e_ (?_));refine A9 rfl (fun hb4=>?_) (fun hb4=>?_)
    ·have hc4:=bp hb4;refine AR (m_ (h:=m_ (h:=BX (h:=?_))));refine A6 rfl (Ag 0 (hc:=GU l _ _ (fun s=>decide (s.size≤13)) (by omega) (by rfl) (by rfl) (by rfl)) (hR:=?_));rintro r a4 ha4 ⟨k4,rfl,p4⟩;refine⟨rfl,_,(by repeat constructor),?_⟩;have hw:=of_decide_eq_true p4;refine A6 rfl (EC rfl rfl (by(try simp only[Fk]);omega) ?_);refine a_ (h:=AP (Ai (?_)));refine AJ ?_;refine⟨_,⟨_,_,?_,?_,rfl⟩,(wk 1 0)⟩<;>(try simp only[Fk])<;>omega
    have hc4:=bp hb4;refine AR (m_ (h:=m_ (h:=?_)));refine A6 rfl (Ag 0 (hc:=Ld l _ (by omega)) (hR:=?_));rintro r a5 ha5 ⟨k5,rfl,hw⟩;refine⟨rfl,_,(by repeat constructor),?_⟩;refine A6 rfl (EC rfl rfl (by(try simp only[Fk]);omega) ?_);refine a_ (h:=AP (Ai (?_)));refine AJ ?_;refine⟨_,⟨_,_,?_,?_,rfl⟩,(wk 1 0)⟩<;>(try simp only[Fk])<;>omega
   have hc3:=bp hb3;refine AD (w_ (m_ (h:=?_)));refine A6 rfl (Ag 0 (hc:=Gn l _ (8) (by omega) (by omega)) (hR:=?_));rintro r a6 ha6 ⟨k6,rfl,p6,q6,o6⟩;refine⟨rfl,_,(by repeat constructor),?_⟩;refine AK (h:=e_ (?_));refine A9 rfl (fun hb5=>?_) (fun hb5=>?_)
   ·have hc5:=bp hb5;refine AR (m_ (h:=m_ (h:=BX (h:=?_))));refine A6 rfl (Ag 0 (hc:=GU l _ _ (fun s=>decide (s.size≤13)) (by omega) (by rfl) (by rfl) (by rfl)) (hR:=?_));rintro r a7 ha7 ⟨k7,rfl,p7⟩;refine⟨rfl,_,(by repeat constructor),?_⟩;have hw:=of_decide_eq_true p7;refine A6 rfl (EC rfl rfl (by(try simp only[Fk]);omega) ?_);refine a_ (h:=AP (Ai (?_)));refine AJ ?_;refine⟨_,⟨_,_,?_,?_,rfl⟩,(wk 1 0)⟩<;>(try simp only[Fk])<;>omega
   have hc5:=bp hb5;refine AR (m_ (h:=m_ (h:=?_)));refine A6 rfl (Ag 0 (hc:=Ld l _ (by omega)) (hR:=?_));rintro r a8 ha8 ⟨k8,rfl,hw⟩;refine⟨rfl,_,(by repeat constructor),?_⟩;refine A6 rfl (EC rfl rfl (by(try simp only[Fk]);omega) ?_);refine a_ (h:=AP (Ai (?_)));refine AJ ?_;refine⟨_,⟨_,_,?_,?_,rfl⟩,(wk 1 0)⟩<;>(try simp only[Fk])<;>omega
  rintro s ⟨b3,t1,hb3,ht1,rfl⟩;refine AR (m_ (h:=B8 (h:=a_ (h:=AP (?_)))));refine AJ ?_;refine⟨_,_,?_,⟨j+1,_,_,by omega,rfl,?_,?_,rfl⟩,(wk 1 0)⟩<;>omega
 have hc2:=bp hb2;refine BF (Ah (Ah (BG (t_ (q_ (w_ (m_ (h:=?_))))))));refine A6 rfl (Ag 0 (hc:=Gn l _ (8) (by omega) (by omega)) (hR:=?_));rintro r a9 ha9 ⟨k9,rfl,p9,q9,o9⟩;refine⟨rfl,_,(by repeat constructor),?_⟩;refine AK (h:=e_ (?_));refine A9 rfl (fun hb6=>?_) (fun hb6=>?_)
 ·have hc6:=bp hb6;refine AR (m_ (h:=?_));refine A6 rfl (EC rfl rfl (by(try simp only[Fk]);omega) ?_);refine a_ (h:=e_ (w_ (m_ (h:=a_ (h:=e_ (A4 (?_)))))));refine Av none (h5:=(AZ _)) (h6:=⟨_,rfl,rfl,_,?_,rfl,_,rfl,?_⟩)<;>(try simp only[Fk])<;>omega
 have hc6:=bp hb6;refine AD (w_ (m_ (h:=a_ (h:=e_ (A4 (?_))))));refine Av none (h5:=(AZ _)) (h6:=⟨_,rfl,rfl,_,?_,rfl,_,rfl,?_⟩)<;>(try simp only[Fk])<;>omega
end
section
theorem KL(l:List Int)(a:Nat)(f:Af)(ha:a≤100000000000)(hf:FlsB f)(hne:∀d∈f,0<d.nodes.length):GenF prog 46 l a [.agg (At f)] 4 (fun r=>∃x:AG,r= .agg (AF x)):=by
 have hfew:=hf.few;have hml:(f.map Bo).length=f.length:=by simp
 refine enter Tryz.func46 rfl rfl rfl rfl rfl 1 rfl ?_;refine w_ (b_ (h:=Aa (h:=e_ (w_ (m_ (h:=f_ (h:=l_ (h:=n_ (h:=?_)))))))));refine A6 rfl (Ag 0 (hc:=Gn l _ ((f.map Bo).length:Int) (by omega) (by omega)) (hR:=?_));rintro r a1 ha1 ⟨k1,rfl,p1,q1,o1⟩;refine⟨rfl,_,(by repeat constructor),?_⟩;obtain⟨m,rfl⟩:=Int.eq_ofNat_of_zero_le p1;refine a_ (h:=e_ (q_ (w_ (f_ (h:=l_ (h:=n_ (h:=AK (h:=m_ (h:=?_)))))))));refine AT false rfl rfl (fun hb1=>?_) (fun hb1=>?_)
 ·have hc1:=bp hb1;refine A3 (h:=A3 (h:=A3 (h:=AA (h:=e_ (B6 (h:=w_ (m_ (h:=?_))))))));refine A6 rfl (Ag 0 (hc:=CH l _ (-1) (3) (by omega) (by omega) (by omega) (by omega)) (hR:=?_));rintro r a2 ha2 ⟨k2,rfl,p2,q2⟩;refine⟨rfl,_,(by repeat constructor),?_⟩;refine m_ (h:=?_);refine A6 rfl (Ag 0 (hc:=CH l _ (-1) (9) (by omega) (by omega) (by omega) (by omega)) (hR:=?_));rintro r a3 ha3 ⟨k3,rfl,p3,q3⟩;refine⟨rfl,_,(by repeat constructor),?_⟩;refine AX (h:=s_ (h:=e_ (A4 (A8 (?_)))));refine Av none (h5:=(AZ _)) (h6:=⟨_,rfl,rfl,_,?_,rfl,(_,_),rfl⟩)<;>omega
 have hc1:=bp hb1;refine m_ (h:=?_);refine B2 (Ag 0 (hc:=Gn l _ (24) (by omega) (by omega)) (hR:=?_));rintro r a4 ha4 ⟨k4,rfl,p4,q4,o4⟩;refine⟨rfl,_,(by repeat constructor),?_⟩;refine AK (h:=AE (h:=e_ (?_)));refine A9 rfl (fun hb2=>?_) (fun hb2=>?_)
 ·have hc2:=bp hb2;refine w_ (m_ (h:=?_));refine A6 rfl (Ag 0 (hc:=CH l _ (-1) (3) (by omega) (by omega) (by omega) (by omega)) (hR:=?_));rintro r a5 ha5 ⟨k5,rfl,p5,q5⟩;refine⟨rfl,_,(by repeat constructor),?_⟩;refine m_ (h:=?_);refine A6 rfl (Ag 0 (hc:=CH l _ (-1) (9) (by omega) (by omega) (by omega) (by omega)) (hR:=?_));rintro r a6 ha6 ⟨k6,rfl,p6,q6⟩;refine⟨rfl,_,(by repeat constructor),?_⟩;refine AX (h:=s_ (h:=e_ (A4 (A8 (?_)))));refine Av none (h5:=(AZ _)) (h6:=⟨_,rfl,rfl,_,?_,rfl,(_,_),rfl⟩)<;>omega
 have hc2:=bp hb2;obtain⟨-,d,hd,hrow, -⟩:=Bt Bo (l:=f) (k:=m) (by omega);have hdn:=hf.nodes d (B1 hd);have hpos:=hne d (B1 hd);have hdl:(d.nodes.map Ap).length=d.nodes.length:=by simp
 refine AD (w_ (f_ (h:=l_ (h:=m_ (h:=?_)))));refine A6 rfl (DX (n:=m) rfl rfl rfl hrow ?_);refine f_ (h:=l_ (h:=a_ (h:=e_ (w_ (m_ (h:=m_ (h:=m_ (h:=m_ (h:=n_ (h:=?_))))))))));refine A6 rfl (Ag 0 (hc:=Gn l _ ((d.nodes.map Ap).length:Int) (by omega) (by omega)) (hR:=?_));rintro r a7 ha7 ⟨k7,rfl,p7,q7,o7⟩;refine⟨rfl,_,(by repeat constructor),?_⟩;obtain⟨i,rfl⟩:=Int.eq_ofNat_of_zero_le p7;obtain⟨-,n,hn,hrow2, -⟩:=Bt Ap (l:=d.nodes) (k:=i) (by omega);refine A6 rfl (DX (n:=i) rfl rfl rfl hrow2 ?_);refine f_ (h:=l_ (h:=AX (h:=s_ (h:=e_ (A4 (?_))))));refine Av none (h5:=(AZ _)) (h6:=⟨_,rfl,rfl,_,?_,rfl,(_,_),rfl⟩)<;>omega
end
section
theorem YW(l:List Int)(a:Nat)(ha:a≤10000000000):GenF prog 178 l a [] 60 (fun r=>∃n:Nod,n.target.size≤100∧n.entries=[]∧r= .agg (Ap n)):=by
 refine enter Tryz.func178 rfl rfl rfl rfl rfl 1 rfl ?_;refine w_ (Aa (h:=e_ (w_ (m_ (h:=BX (h:=?_))))));refine A6 rfl (Ag 0 (hc:=Ce l _ _ (fun _=>true) (by omega) (by rfl) (by rfl) (by rfl)) (hR:=?_));rintro r a1 ha1 ⟨k1,rfl,p1⟩;refine⟨rfl,_,(by repeat constructor),?_⟩;refine m_ (h:=BX (h:=?_));refine A6 rfl (Ag 0 (hc:=Ce l _ _ (fun _=>true) (by omega) (by rfl) (by rfl) (by rfl)) (hR:=?_));rintro r a2 ha2 ⟨k2,rfl,p2⟩;refine⟨rfl,_,(by repeat constructor),?_⟩;refine m_ (h:=BX (h:=?_));refine A6 rfl (Ag 0 (hc:=Ce l _ _ (fun _=>true) (by omega) (by rfl) (by rfl) (by rfl)) (hR:=?_));rintro r a3 ha3 ⟨k3,rfl,p3⟩;refine⟨rfl,_,(by repeat constructor),?_⟩;refine m_ (h:=BX (h:=?_));refine A6 rfl (Ag 0 (hc:=Ce l _ _ (fun _=>true) (by omega) (by rfl) (by rfl) (by rfl)) (hR:=?_));rintro r a4 ha4 ⟨k4,rfl,p4⟩;refine⟨rfl,_,(by repeat constructor),?_⟩;refine AX (h:=Aa (h:=s_ (h:=e_ (?_))));refine Bx (fun s=>∃(b:Nat) (ki mo ui gi:Int) (ta:ByteArray),b≤a+24∧ta.size≤100∧s=⟨look [(0, .bp 0 0),(2, .bp 1 0),(3, .bp 2 0)],⟨[Cc l b,[.v (.int .i64 0), .v (.int .i64 0), .v (.int .i64 0), .v (.int .i64 0), .v (.int .i64 0), .v (.int .i64 0), .v (.string ⟨#[]⟩), .v (.slice none 0 0)],[.v (.int .i64 0), .v (.int .i64 ki), .v (.int .i64 mo), .v (.int .i64 ui), .v (.int .i64 gi), .v (.int .i64 0), .v (.string ta), .v (.slice none 0 0)]],[]⟩⟩) ?_ ?_
 ·skip
  refine w_ (f_ (h:=l_ (h:=AK (h:=e_ (?_)))));refine A9 rfl (fun hb1=>?_) (fun hb1=>?_)
  ·have hc1:=bp hb1;refine AR (m_ (h:=?_));refine A6 rfl (Ag 0 (hc:=NE l _ (by omega)) (hR:=?_));rintro r a5 ha5 ⟨k5,rfl,p5⟩;refine⟨rfl,_,(by repeat constructor),?_⟩;refine f_ (h:=s_ (h:=AP (?_)));refine AJ ?_;refine⟨_,⟨_,_,_,_,_,_,?_,?_,rfl⟩,(wk 3 0)⟩<;>first|omega|assumption|exact BR _
  have hc1:=bp hb1;refine Aq (?_);refine AJ ?_;refine⟨_,⟨_,_,_,_,_,_,?_,?_,rfl⟩,(wk 3 0)⟩<;>first|omega|assumption|exact BR _
 rintro s ⟨b,ki,mo,ui,gi,ta,hb,hta,rfl⟩;refine Bx (fun s=>∃(b2:Nat) (mo2:Int) (ta2:ByteArray),b2≤a+50∧ta2.size≤100∧s=⟨look [(2, .bp 1 0),(3, .bp 2 0)],⟨[Cc l b2,[.v (.int .i64 0), .v (.int .i64 0), .v (.int .i64 0), .v (.int .i64 0), .v (.int .i64 0), .v (.int .i64 0), .v (.string ⟨#[]⟩), .v (.slice none 0 0)],[.v (.int .i64 0), .v (.int .i64 ki), .v (.int .i64 mo2), .v (.int .i64 ui), .v (.int .i64 gi), .v (.int .i64 0), .v (.string ta2), .v (.slice none 0 0)]],[]⟩⟩) ?_ ?_
 ·skip
  refine w_ (m_ (h:=?_));refine A6 rfl (Ag 0 (hc:=Gn l _ (20) (by omega) (by omega)) (hR:=?_));rintro r a6 ha6 ⟨k6,rfl,p6,q6,o6⟩;refine⟨rfl,_,(by repeat constructor),?_⟩;refine AK (h:=e_ (?_));refine A9 rfl (fun hb2=>?_) (fun hb2=>?_)
  ·have hc2:=bp hb2;refine AR (m_ (h:=BX (h:=?_)));refine A6 rfl (Ag 0 (hc:=Ce l _ _ (fun _=>true) (by omega) (by rfl) (by rfl) (by rfl)) (hR:=?_));rintro r a7 ha7 ⟨k7,rfl,p7⟩;refine⟨rfl,_,(by repeat constructor),?_⟩;refine m_ (h:=?_);refine A6 rfl (Ag 0 (hc:=NE l _ (by omega)) (hR:=?_));rintro r a8 ha8 ⟨k8,rfl,p8⟩;refine⟨rfl,_,(by repeat constructor),?_⟩;refine f_ (h:=s_ (h:=f_ (h:=s_ (h:=AP (?_)))));refine AJ ?_;refine⟨_,⟨_,_,_,?_,?_,rfl⟩,(wk 3 0)⟩<;>first|omega|assumption
  have hc2:=bp hb2;refine Aq (?_);refine AJ ?_;refine⟨_,⟨_,_,_,?_,?_,rfl⟩,(wk 3 0)⟩<;>first|omega|assumption
 rintro s ⟨b2,mo2,ta2,hb2,hta2,rfl⟩;refine w_ (l_ (h:=s_ (h:=e_ (A4 (?_)))));refine Av (r:= .agg (Ap ⟨0,ki,mo2,ui,gi,0,ta2,[]⟩)) none (h5:=(by repeat (first|exact AZ _|exact LeA.nil _|exact LeL.refl _|refine LeA.agg ?_|refine LeA.tup ?_|exact LeL.nil|refine LeL.cons ?_ ?_|exact LeA.any _))) (h6:=⟨_,rfl,rfl,b2,by omega,rfl,⟨0,ki,mo2,ui,gi,0,ta2,[]⟩,hta2,rfl,rfl⟩)
end
theorem FlsV.ne{f:Af}(h:FlsV f):∀d∈f,0<d.nodes.length:=fun d hd=>by
 obtain⟨r,rest,hr,_⟩:=(h.vd d hd).root;rw[hr];simp
theorem YX:VD Ju:=by
 refine⟨by decide,by decide,by decide,⟨Ml,[],rfl,rfl,rfl,rfl⟩,List.pairwise_singleton _ _,?_,?_,?_,?_,?_,?_,?_,?_,?_,⟨fun _=>0,?_⟩⟩<;>
  (intro n hn;obtain rfl:n=Ml:=by simpa[Ju]using hn)
 ·decide
 ·decide+kernel
 ·intro h;exact absurd rfl h
 ·decide
 ·exact List.Pairwise.nil
 ·intro e he;cases he
 ·intro h;exact absurd rfl h
 ·intro h;exact absurd rfl h
 ·intro h;exact absurd rfl h
 intro h;exact absurd rfl h
theorem TP{k:Int}(h1:1≤k)(h2:k≤3):FlsV (E6 k).1∧0<(E6 k).1.length:=by
 unfold E6;rw[if_neg (by omega)];refine⟨⟨?_,fun d hd=>?_⟩,?_⟩
 ·show(List.replicate _ _).length≤3;rw[List.length_replicate];omega
 ·rw[(List.mem_replicate.1 hd).2];exact YX
 show 0<(List.replicate _ _).length;rw[List.length_replicate];omega
structure MntOK(f:Af)(ms:List DE)(m:DE):Prop where
 dev1:1≤m.1
 dev2:m.1<(f.length:Int)
 fresh:CB ⟨f,ms⟩ m.1=false
 dir:Ax f m.2=true
 there:CB ⟨f,ms⟩ m.2.1=true
 free:(C5 ⟨f,ms⟩ m.2).isSome=false
structure SpcV(s:Spc):Prop where
 files:FlsV s.files
 pos:0<s.files.length
 mnt:∀i m,s.mounts[i]?=some m→MntOK s.files (s.mounts.take i) m
theorem YY{s:Spc}(h:SpcV s)(dev:Int)(a:AG)(h0:(D0 s dev a).2=0):SpcV (D0 s dev a).1∧(D0 s dev a).1=⟨s.files,s.mounts++[(dev,a)]⟩:=by
 unfold D0 at h0 ⊢;split at h0
 ·exact absurd h0 (by decide)
 rename_i c1;split at h0
 ·exact absurd h0 (by decide)
 rename_i c2;split at h0
 ·exact absurd h0 (by decide)
 rename_i c3;split at h0
 ·exact absurd h0 (by decide)
 rename_i c4;split at h0
 ·exact absurd h0 (by decide)
 rename_i c5;rw[if_neg c1,if_neg c2,if_neg c3,if_neg c4,if_neg c5];refine⟨⟨h.files,h.pos,fun i m hi=>?_⟩,rfl⟩;simp only at hi ⊢;rcases Nat.lt_trichotomy i s.mounts.length with hlt|heq|hgt
 ·rw[CT hlt]at hi;rw[List.take_append_of_le_length (by omega)];exact h.mnt i m hi
 ·subst heq;simp at hi;subst hi;rw[List.take_left' rfl];exact⟨by simp only;omega,by simp only;omega,by simpa using fun h=>c5 (.inl h),by simp only;rw[FB];simp at c2 c3;simp[c2,c3],by simpa using fun h=>c4 (.inl h),Bool.eq_false_iff.2 fun h=>c5 (.inr h)⟩
 rw[List.getElem?_eq_none (by simp;omega)]at hi;cases hi
section
theorem YZ(l:List Int)(a:Nat)(f:Af)(ha:a≤1000000000)(hv:FlsV f):GenF prog 122 l a [.agg (At f)] 80 (fun r=>∃f',r= .agg (At f')∧FlsV f'∧f'.length=f.length):=by
 have hf:=hv.b;have hne:=hv.ne;refine enter Tryz.func122 rfl rfl rfl rfl rfl 1 rfl ?_;refine w_ (b_ (h:=Aa (h:=e_ (w_ (m_ (h:=l_ (h:=?_)))))));refine A6 rfl (Ag 0 (hc:=KL l _ f (by omega) hf hne) (hR:=?_));rintro r a1 ha1 ⟨x1,rfl⟩;refine⟨rfl,_,(by repeat constructor),?_⟩;refine m_ (h:=?_);refine A6 rfl (Ag 0 (hc:=Ld l _ (by omega)) (hR:=?_));rintro r a2 ha2 ⟨k2,rfl,p2⟩;refine⟨rfl,_,(by repeat constructor),?_⟩;refine Aa (h:=s_ (h:=a_ (h:=e_ (w_ (l_ (h:=Aa (h:=s_ (h:=a_ (h:=e_ (?_))))))))));refine Bx (fun t=>∃(R1:Af) (e:Int) (b:Nat),b≤a+80∧(e=0→FlsV R1∧R1.length=f.length)∧t=⟨look [(3, .bp 1 0),(4, .bp 2 0),(7, .bp 4 0),(8, .v (.int .i64 e))],⟨[Cc l b,At f,[.v (.slice none 0 0)],AF x1,At R1],[]⟩⟩) ?_ ?_
 ·skip
  refine w_ (m_ (h:=?_));refine A6 rfl (Ag 0 (hc:=Gn l _ (8) (by omega) (by omega)) (hR:=?_));rintro r a3 ha3 ⟨k3,rfl,p3,q3,o3⟩;refine⟨rfl,_,(by repeat constructor),?_⟩;refine e_ (Ab (w_ (AK (h:=a_ (h:=e_ (?_))))));refine A9 rfl (fun hb1=>?_) (fun hb1=>?_)
  ·have hc1:=bp hb1;refine C3 ([(1,At f),(2,[.v (.slice none 0 0)]),(3,AF x1)]) 13 (h:=AO 0 (h:=AO 1 (h:=Ac 2 (h:=Ac 3 (h:=AO 4 (h:=?_))))));refine c_ 5 rfl (Ag 0 (hc:=KL l _ f (by omega) hf hne) (hR:=?_));rintro r a4 ha4 ⟨x4,rfl⟩;refine⟨rfl,_,(by repeat constructor),?_⟩;refine o_ (h:=?_);refine c_ 6 rfl (AB (Y6 f x1 k2 x4 hv (by omega)) ?_);rintro r rfl;refine o_ (h:=Ac 7 (h:=By 8 (h:=By 9 (h:=By 10 (h:=?_)))));refine Bd 11 rfl (BY rfl rfl rfl rfl rfl rfl (by repeat constructor) (by repeat constructor) ?_);refine o_ (h:=BL 12 (h:=z_ (h:=Ai (?_))));refine AJ ?_;refine⟨_,⟨_,_,_,?_,?_,rfl⟩,(wk 5 0)⟩
   ·omega
   first|exact KD hv _ _ _|exact KE hv _ _|exact KF hv _ _|exact KJ hv _ _ _ _|exact KG hv _ _ _ _|exact KH hv _ _ _
  have hc1:=bp hb1;refine w_ (AK (h:=a_ (h:=e_ (?_))));refine A9 rfl (fun hb2=>?_) (fun hb2=>?_)
  ·have hc2:=bp hb2;refine AR (l_ (h:=l_ (h:=m_ (h:=?_))));refine A6 rfl (AB (Y8 f x1 k2 hv (by omega)) ?_);rintro r rfl;refine m_ (h:=x_ (h:=x_ (h:=x_ (h:=s_ (h:=a_ (h:=AP (Ai (?_))))))));refine AJ ?_;refine⟨_,⟨_,_,_,?_,?_,rfl⟩,(wk 5 0)⟩
   ·omega
   first|exact KD hv _ _ _|exact KE hv _ _|exact KF hv _ _|exact KJ hv _ _ _ _|exact KG hv _ _ _ _|exact KH hv _ _ _
  have hc2:=bp hb2;refine w_ (AK (h:=a_ (h:=e_ (?_))));refine A9 rfl (fun hb3=>?_) (fun hb3=>?_)
  ·have hc3:=bp hb3;refine AR (l_ (h:=l_ (h:=m_ (h:=?_))));refine A6 rfl (AB (Y9 f x1 k2 hv (by omega)) ?_);rintro r rfl;refine m_ (h:=x_ (h:=x_ (h:=x_ (h:=s_ (h:=a_ (h:=AP (Ai (?_))))))));refine AJ ?_;refine⟨_,⟨_,_,_,?_,?_,rfl⟩,(wk 5 0)⟩
   ·omega
   first|exact KD hv _ _ _|exact KE hv _ _|exact KF hv _ _|exact KJ hv _ _ _ _|exact KG hv _ _ _ _|exact KH hv _ _ _
  have hc3:=bp hb3;refine w_ (AK (h:=a_ (h:=e_ (?_))));refine A9 rfl (fun hb4=>?_) (fun hb4=>?_)
  ·have hc4:=bp hb4;refine C3 ([(1,At f),(2,[.v (.slice none 0 0)]),(3,AF x1)]) 15 (h:=AO 0 (h:=AO 1 (h:=Ac 2 (h:=Ac 3 (h:=AO 4 (h:=Ac 6 (h:=?_)))))));refine c_ 5 rfl (Ag 0 (hc:=KL l _ f (by omega) hf hne) (hR:=?_));rintro r a5 ha5 ⟨x5,rfl⟩;refine⟨rfl,_,(by repeat constructor),?_⟩;refine o_ (h:=?_);refine c_ 7 rfl (Ag 0 (hc:=Ld l _ (by omega)) (hR:=?_));rintro r a6 ha6 ⟨k6,rfl,p6⟩;refine⟨rfl,_,(by repeat constructor),?_⟩;refine o_ (h:=?_);refine c_ 8 rfl (AB (YQ f x1 k2 x5 k6 hv (by omega) (by omega)) ?_);rintro r rfl;refine o_ (h:=Ac 9 (h:=By 10 (h:=By 11 (h:=By 12 (h:=?_)))));refine Bd 13 rfl (BY rfl rfl rfl rfl rfl rfl (by repeat constructor) (by repeat constructor) ?_);refine o_ (h:=BL 14 (h:=z_ (h:=Ai (?_))));refine AJ ?_;refine⟨_,⟨_,_,_,?_,?_,rfl⟩,(wk 5 0)⟩
   ·omega
   first|exact KD hv _ _ _|exact KE hv _ _|exact KF hv _ _|exact KJ hv _ _ _ _|exact KG hv _ _ _ _|exact KH hv _ _ _
  have hc4:=bp hb4;refine w_ (AK (h:=a_ (h:=e_ (?_))));refine A9 rfl (fun hb5=>?_) (fun hb5=>?_)
  ·have hc5:=bp hb5;refine C3 ([(1,At f),(2,[.v (.slice none 0 0)]),(3,AF x1)]) 12 (h:=AO 0 (h:=AO 1 (h:=Ac 2 (h:=Ac 4 (h:=?_)))));refine c_ 3 rfl (Ag 0 (hc:=Gn l _ (9) (by omega) (by omega)) (hR:=?_));rintro r a7 ha7 ⟨k7,rfl,p7,q7,o7⟩;refine⟨rfl,_,(by repeat constructor),?_⟩;refine o_ (h:=?_);refine c_ 5 rfl (Ag 0 (hc:=Gn l _ (9) (by omega) (by omega)) (hR:=?_));rintro r a8 ha8 ⟨k8,rfl,p8,q8,o8⟩;refine⟨rfl,_,(by repeat constructor),?_⟩;refine o_ (h:=?_);refine c_ 6 rfl (AB (YC f x1 511 k7 k8 hv) ?_);rintro r rfl;refine o_ (h:=Ac 7 (h:=By 8 (h:=By 9 (h:=?_))));refine Bd 10 rfl (BY rfl rfl rfl rfl rfl rfl (by repeat constructor) (by repeat constructor) ?_);refine o_ (h:=BL 11 (h:=z_ (h:=Ai (?_))));refine AJ ?_;refine⟨_,⟨_,_,_,?_,?_,rfl⟩,(wk 5 0)⟩
   ·omega
   first|exact KD hv _ _ _|exact KE hv _ _|exact KF hv _ _|exact KJ hv _ _ _ _|exact KG hv _ _ _ _|exact KH hv _ _ _
  have hc5:=bp hb5;refine C3 ([(1,At f),(2,[.v (.slice none 0 0)]),(3,AF x1)]) 12 (h:=AO 0 (h:=AO 1 (h:=Ac 2 (h:=Ac 3 (h:=?_)))));refine c_ 4 rfl (Ag 0 (hc:=YW l _ (by omega)) (hR:=?_));rintro r a9 ha9 ⟨n9,ht9,he9,rfl⟩;refine⟨rfl,_,(by repeat constructor),?_⟩;refine o_ (h:=?_);refine c_ 5 rfl (AB (YD f x1 k2 n9 hv (by omega) (by omega)) ?_);rintro r rfl;refine o_ (h:=Ac 6 (h:=By 7 (h:=By 8 (h:=By 9 (h:=?_)))));refine Bd 10 rfl (BY rfl rfl rfl rfl rfl rfl (by repeat constructor) (by repeat constructor) ?_);refine o_ (h:=BL 11 (h:=z_ (h:=Ai (?_))));refine AJ ?_;refine⟨_,⟨_,_,_,?_,?_,rfl⟩,(wk 5 0)⟩
  ·omega
  first|exact KD hv _ _ _|exact KE hv _ _|exact KF hv _ _|exact KJ hv _ _ _ _|exact KG hv _ _ _ _|exact KH hv _ _ _
 rintro t ⟨R1,e,b,hb,hok,rfl⟩;refine q_ (w_ (m_ (h:=Ao (h:=e_ (?_)))));refine A9 rfl (fun hb6=>?_) (fun hb6=>?_)
 ·have hc6:=bp hb6;refine w_ (l_ (h:=s_ (h:=e_ (A4 (A8 (?_))))));refine Av none (h5:=(AZ _)) (h6:=⟨_,rfl,rfl,b,hb,rfl,f,rfl,hv,rfl⟩)
 have hc6:=bp hb6;refine AD (w_ (l_ (h:=s_ (h:=e_ (A4 (?_))))));refine Av none (h5:=(AZ _)) (h6:=⟨_,rfl,rfl,b,hb,rfl,R1,rfl,hok (by omega)⟩)
theorem Ya(l:List Int)(a:Nat)(ha:a≤100000000):GenF prog 75 l a [] 1000 (fun r=>∃f,r= .agg (At f)∧FlsV f∧0<f.length):=by
 refine enter Tryz.func75 rfl rfl rfl rfl rfl 1 rfl ?_;refine w_ (Aa (h:=e_ (w_ (m_ (h:=?_)))));refine A6 rfl (Ag 0 (hc:=CH l _ (1) (3) (by omega) (by omega) (by omega) (by omega)) (hR:=?_));rintro r a1 ha1 ⟨k1,rfl,p1,q1⟩;refine⟨rfl,_,(by repeat constructor),?_⟩;refine A6 rfl (AB (SD k1) ?_);rintro r rfl;refine m_ (h:=x_ (h:=x_ (h:=Aa (h:=s_ (h:=a_ (h:=e_ (q_ (w_ (m_ (h:=?_))))))))));refine A6 rfl (Ag 0 (hc:=CH l _ (2) (12) (by omega) (by omega) (by omega) (by omega)) (hR:=?_));rintro r a2 ha2 ⟨k2,rfl,p2,q2⟩;refine⟨rfl,_,(by repeat constructor),?_⟩;refine a_ (h:=e_ (Ab (?_)));obtain⟨hv0,hp0⟩:=TP p1 q1;obtain⟨M,rfl⟩:=Int.eq_ofNat_of_zero_le (show 0≤k2 by omega);refine BT (fun n s=>∃(j b:Nat) (f:Af),j≤M∧n=j∧b+80 * j≤a+2+80 * M∧FlsV f∧0<f.length∧s=⟨look [(0, .bp 0 0),(2, .bp 1 0),(3, .bp 2 0),(5, .v (.int .i64 (j:Int)))],⟨[Cc l b,[.v (.slice none 0 0)],At f],[]⟩⟩) (M) ((wk 3 0)) (⟨M,_,_,B3 _,rfl,by omega,hv0,hp0,rfl⟩) ?_;rintro n s ⟨j,b,f,hj,rfl,hb,hv,hp,rfl⟩;refine q_ (w_ (m_ (h:=Ba (h:=e_ (?_)))));refine A9 rfl (fun hb1=>?_) (fun hb1=>?_)
 ·have hc1:=bp hb1;refine AD (q_ (Ab (AR (m_ (h:=l_ (h:=?_))))));refine A6 rfl (Ag 0 (hc:=YZ l _ f (by omega) hv) (hR:=?_));rintro r a3 ha3 ⟨f3,rfl,hv3,hl3⟩;refine⟨rfl,_,(by repeat constructor),?_⟩;refine s_ (h:=AP (Ai (t_ (AR (m_ (h:=?_))))));refine A6 rfl (JC rfl rfl (by omega) ?_);refine a_ (h:=AP (?_));refine AJ ?_;refine⟨n - 1,_,by omega,⟨n - 1,_,f3,by omega,rfl,?_,hv3,by omega,rfl⟩,(by rw[show((n - 1:Nat):Int)=(n:Int) - 1 by omega];exact Ar 3 0 rfl rfl rfl rfl ((by repeat (first|exact Sub.nil|refine As rfl rfl ?_|refine Ay ?_|refine Az rfl ?_|refine B0 rfl ?_))))⟩;omega
 have hc1:=bp hb1;refine BF (Ah (Ah (BG (t_ (w_ (l_ (h:=s_ (h:=e_ (A4 (?_))))))))));refine Av none (h5:=(AZ _)) (h6:=⟨_,rfl,rfl,b,by omega,rfl,f,rfl,hv,hp⟩)
end
end Go.Proofs.YtbgnigjfkbmceaaGreatDoor
