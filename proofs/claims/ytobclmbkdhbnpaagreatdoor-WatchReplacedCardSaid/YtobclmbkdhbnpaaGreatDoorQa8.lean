/-
  Part 8 of the proof of WatchReplacedP: what the statement's proof uses of the texts in wip/tpl.
-/
import Derived.Test.YtobclmbkdhbnpaaGreatDoorQa7
open Go.Proofs.Tryz (prog)
set_option maxRecDepth 10000
set_option maxHeartbeats 4000000
set_option linter.unusedVariables false
set_option linter.unusedSimpArgs false
namespace Go.Proofs.YtobclmbkdhbnpaaGreatDoor
open Go.RowKit
theorem Ta{n:Nat}{g:Nat→Option (List AV)}{j sz m cap0 cap:Nat}{rows:List (List AV)}(hn:n≤j)(hg:g j=some (CJ sz cap rows))(hr:∀r∈rows,r.length=sz)(hm:m=rows.length)(hc:rows.length≤cap):Eh n g (.bs j 0 sz m cap0)= .sl sz rows none:=by
 have:Nat.blt j n=false:=by rw[←Bool.not_eq_true,Nat.blt_eq];omega
 simp only[Eh,this];exact Pv hg hr hm hc
theorem YT(a b c:A9)(x:Bp):∀r∈[AB a,AB b,AB c,CN x],∀y∈r,∃v,y= .v v:=by
 intro r hr y hy;simp only[List.mem_cons,List.not_mem_nil,or_false]at hr;rcases hr with rfl|rfl|rfl|rfl
 ·simp[AB]at hy;rcases hy with h|h<;>exact⟨_,h⟩
 ·simp[AB]at hy;rcases hy with h|h<;>exact⟨_,h⟩
 ·simp[AB]at hy;rcases hy with h|h<;>exact⟨_,h⟩
 simp[CN]at hy;rcases hy with h|h|h|h|h|h|h<;>exact⟨_,h⟩
theorem Tc{j:Nat}{x:Int}(hx:FR[j]?=some x):x≠0:=by
 match j,hx with
 |0,hx=>injection hx with hx;omega
 |1,hx=>injection hx with hx;omega
 |2,hx=>injection hx with hx;omega
 |j+3,hx=>exact absurd hx (by simp[FR])
theorem QL{ns:List Nod}{i k:Nat}{n0 m:Nod}(hi:ns[i]?=some n0)(hk:ns[k]?=some m)(name:AE)(ino:Int):∃m',(entS ns i n0 name ino)[k]?=some m'∧m'.ino=m.ino∧m'.entries.length≤m.entries.length+1:=by
 unfold entS;rw[List.getElem?_set];split
 ·rename_i e;subst e;rw[hi]at hk;injection hk with hk;subst hk;exact⟨{n0 with entries:=CU n0.entries name ino},by rw[if_pos (Ai.1 hi).1],rfl,QE _ _ _⟩
 exact⟨m,hk,rfl,by omega⟩
theorem Td{ns:List Nod}{i:Nat}{n0:Nod}(hi:ns[i]?=some n0){name:AE}{ino:Int}{m':Nod}(hm:m'∈entS ns i n0 name ino):∃m∈ns,m'.ino=m.ino∧m'.entries.length≤m.entries.length+1:=by
 rcases List.mem_or_eq_of_mem_set hm with h|h
 ·exact⟨m',h,rfl,by omega⟩
 subst h;exact⟨n0,Aj hi,rfl,QE _ _ _⟩
theorem Te{ns:List Nod}(h:DX ns){i:Nat}{n0:Nod}(hn:ns[i]?=some n0)(name:AE)(ino:Int):DX (entS ns i n0 name ino):=by
 have:=QK (d:=⟨0,ns⟩) h hn name ino;simp only at this;rw[this];exact Km h _ _ _
theorem YU(f:AT)(q:Nat)(d d':Dvc)(n:Nod)(i:Nat)(a:A9)(name:AE)(ino:Int)(cap cap1:Nat)(hf:FlsB (f.set q d'))(hq:q<f.length)(ha:a.1=(q:Int))(hi:EX (f.set q d') a=(i:Int))(hn:d'.nodes[i]?=some n)(hcap:f.length≤cap)(hcap1:d'.nodes.length≤cap1)(hnx:d'.next=d.next)(hl:d'.nodes.length=d.nodes.length):
    ACall prog 37 [.agg [.bs 0 0 2 f.length cap], .agg (AB a), .v (.string name), .v (.int .i64 ino)] [DB f q d 1 cap cap1,NB d'.nodes cap1] (fun r b t=>t=[]∧r= .tup []∧b=[DB f q ⟨d.next,entS d'.nodes i n name ino⟩ 1 cap cap1,NB (entS d'.nodes i n name ino) cap1]):=by
 have key:=TU f q d' n i a name ino cap cap1 hf hq ha hi hn hcap hcap1;have e1:DB f q d' 1 cap cap1=DB f q d 1 cap cap1:=by unfold DB Et G8;rw[hnx,hl]
 have e2:DB f q d 1 cap cap1=DB f q ⟨d.next,entS d'.nodes i n name ino⟩ 1 cap cap1:=by unfold DB Et G8;rw[Fn,hl]
 rw[e1]at key;exact key.mono fun r b t ⟨h1,h2,h3⟩=>⟨h1,h2,by rw[h3,e2]⟩
theorem YV{f:AT}(hv:FlsV f){q:Nat}{d:Dvc}(hq:f[q]?=some d){i i2:Nat}{n1 n2:Nod}(hn1:d.nodes[i]?=some n1)(hn2:d.nodes[i2]?=some n2)(name name2:AE)(ai:Int)(ha:∃m∈d.nodes,m.ino=ai):
    ∃(X1 X2:List Nod) (m2:Nod),X1=entS d.nodes i n1 name 0∧X1[i2]?=some m2∧m2.ino=n2.ino∧X2=entS X1 i2 m2 name2 ai∧DX X1∧DX X2∧X1.length=d.nodes.length∧X2.length=d.nodes.length∧X2=BS (BS d.nodes n1.ino name 0) n2.ino name2 ai∧
     FlsB (f.set q ⟨d.next,X1⟩)∧FlsB (f.set q ⟨d.next,X2⟩)∧(∀m∈X2,m.entries.length≤1000)∧(∃m∈X2,m.ino=1)∧∃m∈X2,m.ino=ai:=by
 have hd:=hv.vd d (Aj hq);obtain⟨m2,hm2,hi2,hl2⟩:=QL hn1 hn2 name 0;have e1:=QK hd.asc hn1 name 0;have a1:=Te hd.asc hn1 name 0;have e2:=QK (d:=⟨0,entS d.nodes i n1 name 0⟩) a1 hm2 name2 ai;simp only at e2;have a2:=Te a1 hm2 name2 ai
 have hb2:∀m∈entS (entS d.nodes i n1 name 0) i2 m2 name2 ai,m.entries.length≤1000:=fun m hm=>by
  obtain⟨m',h1,_,h2⟩:=Td hm2 hm;obtain⟨m'',h3,_,h4⟩:=Td hn1 h1;have:=hd.many m'' h3;omega
 have hmem:∀x:Int,(∃m∈d.nodes,m.ino=x)→∃m∈entS (entS d.nodes i n1 name 0) i2 m2 name2 ai,m.ino=x:=by
  rintro x ⟨m,hm,rfl⟩;obtain⟨k,hk⟩:=List.getElem?_of_mem hm;obtain⟨m',h1,h2,_⟩:=QL hn1 hk name 0;obtain⟨m'',h3,h4,_⟩:=QL hm2 h1 name2 ai;exact⟨m'',Aj h3,h4.trans h2⟩
 obtain⟨r,hr,hr1,_⟩:=hd.rootMem;refine⟨_,_,m2,rfl,hm2,hi2,rfl,a1,a2,Fn _ _ _ _ _,by rw[Fn,Fn],by rw[e2,e1,hi2],hv.entS hq hn1 name 0,hv.b.set_ ?_ hb2,hb2,hmem 1 ⟨r,hr,hr1⟩,hmem ai ha⟩;show(entS _ _ _ _ _).length≤1000;rw[Fn,Fn];have:=hd.len;omega
section
theorem QM(f:AT)(src:A9)(name:AE)(to:A9)(name2:AE)(hv:FlsV f)(hs:name.size≤100000)(hs2:name2.size≤100000):AFn prog 12 [.agg (Al f), .agg (AB src), .v (.string name), .agg (AB to), .v (.string name2)] (fun r=>r=CV (CG f src name to name2)):=by
 have hf:=hv.b;have P1:=Kd f src name hf hs;have P2:=Kd f to name2 hf hs2;have L1:=GO f src name hf;have L2:=GO f to name2 hf;obtain⟨pa,hpa⟩:∃x,C6 f src name=x:=⟨_,rfl⟩;obtain⟨pb,hpb⟩:∃x,C6 f to name2=x:=⟨_,rfl⟩;obtain⟨⟨A,e1⟩,hl1⟩:∃x,AD f src name=x:=⟨_,rfl⟩;obtain⟨⟨O,e2⟩,hl2⟩:∃x,AD f to name2=x:=⟨_,rfl⟩;rw[hpa]at P1;rw[hpb]at P2;rw[hl1]at L1;rw[hl2]at L2;simp only at L1 L2
 have hRen:CG f src name to name2=(if F8 pa pb≠0 then([],[],F8 pa pb)else if e1≠0 then([],[],e1)else if src.1≠to.1 then([],[],18)else
     if Ag f A=true∧Kr f to A=true then([],[],22)else if e2=0∧O=A then(f,[],0)else if DQ f src to A O e2≠0 then([],[],DQ f src to A O e2)else
     (FP f to.1.toNat fun ns=>FS (GT ns src name to name2 A O e2) A.2 to.2 (Ag f A),[(src,name,A,(0,0)),(to,name2,O,A)],0)):=by
  unfold CG;rw[hpa,hpb,hl1,hl2]
 have hol:FR.length=3:=rfl;refine enter Tryz.func12 rfl rfl rfl rfl rfl 0 rfl ?_;refine w_ (b_ (h:=b_ (h:=b_ (h:=Af (h:=a_ (h:=a_ (h:=e_ (q_ (Dk 10 (h:=AF 0 (h:=AF 1 (h:=AP 2 (h:=AF 4 (h:=AF 5 (h:=AP 6 (h:=?_))))))))))))))));refine c_ 3 rfl (AK (P1) ?_);rintro r rfl;refine o_ (h:=?_);refine c_ 7 rfl (AK (P2) ?_);rintro r rfl;refine o_ (h:=BN 8 (h:=BN 9 (h:=z_ (h:=t_ (w_ (C2 (h:=a_ (h:=e_ (q_ (w_ (a_ (h:=e_ (Ao (?_))))))))))))));refine Bm (fun m t=>∃j:Nat,j≤FR.length∧m=FR.length - j∧(∀i y,i<j→FR[i]?=some y→¬(pa=y∨pb=y))∧t=⟨look [(2, .v (.string name)),(4, .v (.string name2)),(5, .bp 0 0),(6, .bp 1 0),(8, .bp 2 0),(10, .bp 3 0),(13, .v (.int .i64 pa)),(14, .v (.int .i64 pb)),(15, .sl 1 (FR.map CB) none),(16, .v (.int .i64 (j:Int)))],⟨[Al f,AB src,AB to,[.v (.slice none 0 0)]],[]⟩⟩) (FR.length) ((wk 4 0)) (⟨0,BJ _,rfl,fun i y hi=>by omega,rfl⟩) ?_;rintro m t ⟨j,hj,rfl,ha,rfl⟩;refine q_ (w_ (m_ (h:=m_ (h:=n_ (h:=BO (h:=e_ (?_)))))));refine A8 rfl (fun hb1=>?_) (fun hb1=>?_)
 ·have hc1:=bp hb1;obtain⟨hlt,x,hx,hrow, -⟩:=CF CB (l:=FR) hc1;refine AN (q_ (Ao (w_ (m_ (h:=m_ (h:=m_ (h:=i_ (h:=l_ (h:=Ac (h:=m_ (h:=?_)))))))))));refine As false rfl rfl (fun hb2=>?_) (fun hb2=>?_)
  ·have hc2:=bp hb2;refine A3 (h:=A3 (h:=A3 (h:=A3 (h:=A3 (h:=A3 (h:=AU (h:=e_ (BQ (h:=q_ (?_))))))))));refine KT (fun _=>True) 8 (by kernel_rfl) ?_;refine BR (i:=0) rfl rfl (by kernel_rfl) (by first|rfl|exact AO rfl rfl (BG ‹_›)|exact AO rfl rfl (BH ‹_›)|exact AO rfl rfl (by simp[*])) (fun h0 hS=>DK ⟨rfl,rfl⟩) trivial ?_;refine BR (i:=1) rfl rfl (by kernel_rfl) (by first|rfl|exact AO rfl rfl (BG ‹_›)|exact AO rfl rfl (BH ‹_›)|exact AO rfl rfl (by simp[*])) (fun h0 hS=>En rfl ⟨rfl,rfl⟩) trivial ?_;refine BR (i:=2) rfl rfl (by kernel_rfl) (by first|rfl|exact AO rfl rfl (BG ‹_›)|exact AO rfl rfl (BH ‹_›)|exact AO rfl rfl (by simp[*])) (fun h0 hS=>En rfl ⟨rfl,rfl⟩) trivial ?_;refine BR (i:=3) rfl rfl (by kernel_rfl) (by first|rfl|exact AO rfl rfl (BG ‹_›)|exact AO rfl rfl (BH ‹_›)|exact AO rfl rfl (by simp[*])) (fun h0 hS=>CM rfl rfl rfl (by first|assumption|rfl) ⟨rfl,rfl⟩) trivial ?_;refine BR (i:=4) rfl rfl (by kernel_rfl) (by first|rfl|exact AO rfl rfl (BG ‹_›)|exact AO rfl rfl (BH ‹_›)|exact AO rfl rfl (by simp[*])) (fun h0 hS=>Gr rfl rfl ⟨rfl,rfl⟩) trivial ?_;refine B8 5 rfl (B3 rfl rfl rfl rfl rfl rfl (by repeat constructor) (by repeat constructor) ?_);refine⟨.inr trivial,?_⟩;refine BR (i:=6) rfl rfl (by kernel_rfl) (by first|rfl|exact AO rfl rfl (BG ‹_›)|exact AO rfl rfl (BH ‹_›)|exact AO rfl rfl (by simp[*])) (fun h0 hS=>Gl rfl ⟨rfl,rfl⟩) trivial ?_;refine BR (i:=7) rfl rfl (by kernel_rfl) (by first|rfl|exact AO rfl rfl (BG ‹_›)|exact AO rfl rfl (BH ‹_›)|exact AO rfl rfl (by simp[*])) (fun h0 hS=>Gl rfl ⟨rfl,rfl⟩) trivial ?_;refine z_ (h:=t_ (A6 (AR (A4 (A4 (AR (A4 (?_))))))));refine B0 (r:=CV (CG f src name to name2)) none (h5:=?_) (h6:=⟨rfl,rfl,rfl⟩);rw[hRen,show F8 pa pb=x from TY hx ha (.inl hc2),if_pos (Tc hx)];exact DM _
  have hc2:=bp hb2;refine m_ (h:=m_ (h:=m_ (h:=i_ (h:=l_ (h:=Ac (h:=Ah (h:=e_ (?_))))))));refine A8 rfl (fun hb3=>?_) (fun hb3=>?_)
  ·have hc3:=bp hb3;refine q_ (?_);refine KT (fun _=>True) 8 (by kernel_rfl) ?_;refine BR (i:=0) rfl rfl (by kernel_rfl) (by first|rfl|exact AO rfl rfl (BG ‹_›)|exact AO rfl rfl (BH ‹_›)|exact AO rfl rfl (by simp[*])) (fun h0 hS=>DK ⟨rfl,rfl⟩) trivial ?_;refine BR (i:=1) rfl rfl (by kernel_rfl) (by first|rfl|exact AO rfl rfl (BG ‹_›)|exact AO rfl rfl (BH ‹_›)|exact AO rfl rfl (by simp[*])) (fun h0 hS=>En rfl ⟨rfl,rfl⟩) trivial ?_;refine BR (i:=2) rfl rfl (by kernel_rfl) (by first|rfl|exact AO rfl rfl (BG ‹_›)|exact AO rfl rfl (BH ‹_›)|exact AO rfl rfl (by simp[*])) (fun h0 hS=>En rfl ⟨rfl,rfl⟩) trivial ?_;refine BR (i:=3) rfl rfl (by kernel_rfl) (by first|rfl|exact AO rfl rfl (BG ‹_›)|exact AO rfl rfl (BH ‹_›)|exact AO rfl rfl (by simp[*])) (fun h0 hS=>CM rfl rfl rfl (by first|assumption|rfl) ⟨rfl,rfl⟩) trivial ?_;refine BR (i:=4) rfl rfl (by kernel_rfl) (by first|rfl|exact AO rfl rfl (BG ‹_›)|exact AO rfl rfl (BH ‹_›)|exact AO rfl rfl (by simp[*])) (fun h0 hS=>Gr rfl rfl ⟨rfl,rfl⟩) trivial ?_;refine B8 5 rfl (B3 rfl rfl rfl rfl rfl rfl (by repeat constructor) (by repeat constructor) ?_);refine⟨.inr trivial,?_⟩;refine BR (i:=6) rfl rfl (by kernel_rfl) (by first|rfl|exact AO rfl rfl (BG ‹_›)|exact AO rfl rfl (BH ‹_›)|exact AO rfl rfl (by simp[*])) (fun h0 hS=>Gl rfl ⟨rfl,rfl⟩) trivial ?_;refine BR (i:=7) rfl rfl (by kernel_rfl) (by first|rfl|exact AO rfl rfl (BG ‹_›)|exact AO rfl rfl (BH ‹_›)|exact AO rfl rfl (by simp[*])) (fun h0 hS=>Gl rfl ⟨rfl,rfl⟩) trivial ?_;refine z_ (h:=t_ (A6 (AR (A4 (A4 (AR (A4 (?_))))))));refine B0 (r:=CV (CG f src name to name2)) none (h5:=?_) (h6:=⟨rfl,rfl,rfl⟩);rw[hRen,show F8 pa pb=x from TY hx ha (.inr hc3),if_pos (Tc hx)];exact DM _
  have hc3:=bp hb3;refine BA (Au (t_ (AX (m_ (h:=B2 (h:=a_ (h:=AW (?_))))))));refine AJ ?_;refine⟨_,_,?_,⟨j+1,hlt,rfl,EW hx ha (not_or.2 ⟨hc2,hc3⟩),rfl⟩,(wk 4 0)⟩;omega
 have hc1:=bp hb1;have e3:=Cx CB (l:=FR) hj hc1;subst e3;have hord:F8 pa pb=0:=YL ha;obtain⟨hpl1,hpl2⟩:=Ny (f:=f) (x:=src) (y:=to) (name:=name) (name2:=name2) (by rw[hpa,hpb];exact hord);refine BU (Am (Am (BV (t_ (w_ (l_ (h:=l_ (h:=m_ (h:=?_)))))))));refine A7 rfl (AK (L1) ?_);rintro r rfl;refine m_ (h:=x_ (h:=x_ (h:=Af (h:=s_ (h:=a_ (h:=e_ (q_ (w_ (m_ (h:=BX (h:=e_ (?_))))))))))));refine A8 rfl (fun hb4=>?_) (fun hb4=>?_)
 ·have hc4:=bp hb4;refine w_ (Aa (h:=m_ (h:=s_ (h:=a_ (h:=a_ (h:=e_ (A6 (A4 (?_)))))))));refine B0 (r:=CV (CG f src name to name2)) none (h5:=?_) (h6:=⟨rfl,rfl,rfl⟩);rw[hRen,if_neg (by rw[hord];simp),if_pos hc4];exact DM _
 have hc4:=bp hb4;have he1:e1=0:=by omega
 refine AN (q_ (w_ (f_ (h:=l_ (h:=f_ (h:=l_ (h:=BX (h:=e_ (?_)))))))));refine A8 rfl (fun hb5=>?_) (fun hb5=>?_)
 ·have hc5:=bp hb5;refine w_ (Aa (h:=s_ (h:=a_ (h:=a_ (h:=e_ (A6 (A4 (?_))))))));refine B0 (r:=CV (CG f src name to name2)) none (h5:=?_) (h6:=⟨rfl,rfl,rfl⟩);rw[hRen,if_neg (by rw[hord];simp),if_neg (by simp[he1]),if_pos hc5];exact DM _
 have hc5:=bp hb5;refine AN (w_ (l_ (h:=l_ (h:=?_))));refine A7 rfl (AK (Fi f A hf) ?_);rintro r rfl;refine a_ (h:=e_ (?_));refine BY (fun t=>(Ag f A=true→Kr f to A=false)∧t=⟨look [(2, .v (.string name)),(4, .v (.string name2)),(5, .bp 0 0),(6, .bp 1 0),(8, .bp 2 0),(10, .bp 3 0),(17, .bp 4 0),(19, .v (.bool (Ag f A)))],⟨[Al f,AB src,AB to,[.v (.slice none 0 0)],AB A],[]⟩⟩) ?_ ?_
 ·skip
  refine w_ (m_ (h:=m_ (h:=?_)));refine As true rfl rfl (fun hb6=>?_) (fun hb6=>?_)
  ·have hc6:=bp hb6;refine l_ (h:=l_ (h:=l_ (h:=?_)));refine Aw (AK (XQ f to A hf) ?_);rintro r rfl;refine AU (h:=e_ (?_));refine A8 rfl (fun hb7=>?_) (fun hb7=>?_)
   ·have hc7:=bp hb7;refine w_ (Aa (h:=s_ (h:=a_ (h:=a_ (h:=e_ (A6 (A4 (?_))))))));refine B0 (r:=CV (CG f src name to name2)) none (h5:=?_) (h6:=⟨rfl,rfl,rfl⟩);rw[hRen,if_neg (by rw[hord];simp),if_neg (by simp[he1]),if_neg (by simp[hc5]),if_pos ⟨hc6,hc7⟩];exact DM _
   have hc7:=bp hb7;have hbl:Ag f A=true→Kr f to A=false:=fun _=>hc7;refine BA (?_);refine AJ ?_;exact⟨_,⟨hbl,rfl⟩,(wk 5 0)⟩
  have hc6:=bp hb6;have hbl:Ag f A=true→Kr f to A=false:=fun h=>absurd (h.symm.trans hc6) (by decide);refine A3 (h:=A3 (h:=A3 (h:=A3 (h:=Ah (h:=e_ (F5 (h:=BA (?_))))))));refine AJ ?_;exact⟨_,⟨hbl,rfl⟩,(wk 5 0)⟩
 rintro t ⟨hbl,rfl⟩;refine w_ (l_ (h:=l_ (h:=m_ (h:=?_))));refine A7 rfl (AK (L2) ?_);rintro r rfl;refine m_ (h:=x_ (h:=x_ (h:=Af (h:=s_ (h:=a_ (h:=e_ (?_)))))));refine BY (fun t=>(e2=0→O≠A)∧t=⟨look [(2, .v (.string name)),(4, .v (.string name2)),(5, .bp 0 0),(6, .bp 1 0),(8, .bp 2 0),(10, .bp 3 0),(17, .bp 4 0),(18, .v (.int .i64 e2)),(19, .v (.bool (Ag f A))),(20, .bp 5 0)],⟨[Al f,AB src,AB to,[.v (.slice none 0 0)],AB A,AB O],[]⟩⟩) ?_ ?_
 ·skip
  refine w_ (m_ (h:=Ac (h:=m_ (h:=?_))));refine As true rfl rfl (fun hb8=>?_) (fun hb8=>?_)
  ·have hc8:=bp hb8;refine l_ (h:=l_ (h:=?_));refine Aw (Er rfl rfl (by repeat constructor) (by repeat constructor) (fun w=>Ke _ _ _ _ w) (by kernel_rfl) ?_);refine AU (h:=e_ (?_));refine A8 rfl (fun hb9=>?_) (fun hb9=>?_)
   ·have hc9:=bp hb9;refine w_ (l_ (h:=?_));refine A7 rfl (AK (QJ f hf) ?_);rintro r rfl;refine s_ (h:=a_ (h:=a_ (h:=e_ (A6 (A4 (?_))))));refine B0 (r:=CV (CG f src name to name2)) none (h5:=?_) (h6:=⟨rfl,rfl,rfl⟩);rw[hRen,if_neg (by rw[hord];simp),if_neg (by simp[he1]),if_neg (by simp[hc5]),if_neg (fun h=>absurd h.2 (by rw[hbl h.1];decide)),if_pos ⟨hc8,hc9⟩];exact YM _
   have hc9:=bp hb9;have hoa:e2=0→O≠A:=fun _=>hc9;refine BA (?_);refine AJ ?_;exact⟨_,⟨hoa,rfl⟩,(wk 6 0)⟩
  have hc8:=bp hb8;have hoa:e2=0→O≠A:=fun h=>absurd h hc8;refine A3 (h:=A3 (h:=A3 (h:=Ah (h:=e_ (F5 (h:=BA (?_)))))));refine AJ ?_;exact⟨_,⟨hoa,rfl⟩,(wk 6 0)⟩
 rintro t ⟨hoa,rfl⟩;refine BY (fun t=>DQ f src to A O e2=0∧t=⟨look [(2, .v (.string name)),(4, .v (.string name2)),(5, .bp 0 0),(6, .bp 1 0),(8, .bp 2 0),(10, .bp 3 0),(17, .bp 4 0),(18, .v (.int .i64 e2)),(19, .v (.bool (Ag f A))),(20, .bp 5 0)],⟨[Al f,AB src,AB to,[.v (.slice none 0 0)],AB A,AB O],[]⟩⟩) ?_ ?_
 ·skip
  refine w_ (m_ (h:=Ac (h:=e_ (?_))));refine A8 rfl (fun hb10=>?_) (fun hb10=>?_)
  ·have hc10:=bp hb10;refine w_ (l_ (h:=l_ (h:=?_)));refine A7 rfl (AK (Fi f O hf) ?_);rintro r rfl;refine a_ (h:=e_ (q_ (w_ (m_ (h:=m_ (h:=?_))))));refine As true rfl rfl (fun hb11=>?_) (fun hb11=>?_)
   ·have hc11:=bp hb11;refine m_ (h:=BZ (h:=AU (h:=e_ (?_))));refine A8 rfl (fun hb12=>?_) (fun hb12=>?_)
    ·have hc12:=bp hb12;refine w_ (Aa (h:=s_ (h:=a_ (h:=a_ (h:=e_ (A6 (A4 (A4 (?_)))))))));refine B0 (r:=CV (CG f src name to name2)) none (h5:=?_) (h6:=⟨rfl,rfl,rfl⟩);have h2:DQ f src to A O e2=21:=by unfold DQ;simp[hc10,hc11,hc12]
     rw[hRen,if_neg (by rw[hord];simp),if_neg (by simp[he1]),if_neg (by simp[hc5]),if_neg (fun h=>absurd h.2 (by rw[hbl h.1];decide)),if_neg (fun h=>hoa h.1 h.2),h2,if_pos (by decide)];exact DM _
    have hc12:=bp hb12;refine AN (q_ (w_ (m_ (h:=BZ (h:=m_ (h:=A3 (h:=Ah (h:=e_ (F5 (h:=AN (w_ (m_ (h:=m_ (h:=l_ (h:=l_ (h:=?_))))))))))))))));refine Aw (AK (Se f O hf) ?_);rintro r rfl;refine BZ (h:=AU (h:=e_ (?_)));refine A8 rfl (fun hb13=>?_) (fun hb13=>?_)
    ·have hc13:=bp hb13;refine w_ (Aa (h:=s_ (h:=a_ (h:=a_ (h:=e_ (A6 (A4 (?_))))))));refine B0 (r:=CV (CG f src name to name2)) none (h5:=?_) (h6:=⟨rfl,rfl,rfl⟩);have h2:DQ f src to A O e2=39:=by unfold DQ;simp[hc10,hc11,hc12,hc13]
     rw[hRen,if_neg (by rw[hord];simp),if_neg (by simp[he1]),if_neg (by simp[hc5]),if_neg (fun h=>absurd h.2 (by rw[hbl h.1];decide)),if_neg (fun h=>hoa h.1 h.2),h2,if_pos (by decide)];exact DM _
    have hc13:=bp hb13;have h2:DQ f src to A O e2=0:=by unfold DQ;simp[hc10,hc11,hc12,hc13]
    refine BA (?_);refine AJ ?_;exact⟨_,⟨h2,rfl⟩,(wk 6 0)⟩
   have hc11:=bp hb11;refine A3 (h:=A3 (h:=Ah (h:=e_ (F5 (h:=AN (q_ (w_ (m_ (h:=BZ (h:=m_ (h:=m_ (h:=AU (h:=e_ (?_))))))))))))));refine A8 rfl (fun hb14=>?_) (fun hb14=>?_)
   ·have hc14:=bp hb14;refine w_ (Aa (h:=s_ (h:=a_ (h:=a_ (h:=e_ (A6 (A4 (A4 (?_)))))))));refine B0 (r:=CV (CG f src name to name2)) none (h5:=?_) (h6:=⟨rfl,rfl,rfl⟩);have h2:DQ f src to A O e2=20:=by unfold DQ;simp[hc10,hc11,hc14]
    rw[hRen,if_neg (by rw[hord];simp),if_neg (by simp[he1]),if_neg (by simp[hc5]),if_neg (fun h=>absurd h.2 (by rw[hbl h.1];decide)),if_neg (fun h=>hoa h.1 h.2),h2,if_pos (by decide)];exact DM _
   have hc14:=bp hb14;have h2:DQ f src to A O e2=0:=by unfold DQ;simp[hc10,hc11,hc14]
   refine AN (w_ (m_ (h:=m_ (h:=A3 (h:=A3 (h:=A3 (h:=A3 (h:=Ah (h:=e_ (F5 (h:=BA (?_))))))))))));refine AJ ?_;exact⟨_,⟨h2,rfl⟩,(wk 6 0)⟩
  have hc10:=bp hb10;refine w_ (l_ (h:=l_ (h:=?_)));refine A7 rfl (AK (PW f to hf) ?_);rintro r rfl;refine m_ (h:=?_);refine As true rfl rfl (fun hb15=>?_) (fun hb15=>?_)
  ·have hc15:=bp hb15;refine l_ (h:=l_ (h:=?_));refine Aw (Er rfl rfl (by repeat constructor) (by repeat constructor) (fun w=>PX _ _ _ _ w) (by kernel_rfl) ?_);refine AU (h:=e_ (?_));refine A8 rfl (fun hb16=>?_) (fun hb16=>?_)
   ·have hc16:=bp hb16;refine w_ (Aa (h:=s_ (h:=a_ (h:=a_ (h:=e_ (A6 (A4 (?_))))))));refine B0 (r:=CV (CG f src name to name2)) none (h5:=?_) (h6:=⟨rfl,rfl,rfl⟩);have h2:DQ f src to A O e2=28:=by unfold DQ;rw[if_neg hc10,if_pos ⟨hc15,hc16⟩]
    rw[hRen,if_neg (by rw[hord];simp),if_neg (by simp[he1]),if_neg (by simp[hc5]),if_neg (fun h=>absurd h.2 (by rw[hbl h.1];decide)),if_neg (fun h=>hoa h.1 h.2),h2,if_pos (by decide)];exact DM _
   have hc16:=bp hb16;have h2:DQ f src to A O e2=0:=by unfold DQ;rw[if_neg hc10,if_neg (fun h=>h.2 hc16)]
   refine BA (?_);refine AJ ?_;exact⟨_,⟨h2,rfl⟩,(wk 6 0)⟩
  have hc15:=bp hb15;have h2:DQ f src to A O e2=0:=by unfold DQ;rw[if_neg hc10,if_neg (fun h=>absurd (h.1.symm.trans hc15) (by decide))]
  refine A3 (h:=A3 (h:=A3 (h:=Ah (h:=e_ (F5 (h:=BA (?_)))))));refine AJ ?_;exact⟨_,⟨h2,rfl⟩,(wk 6 0)⟩
 rintro t ⟨h2,rfl⟩;obtain⟨q,i,d,n1,hsq,hq,hn1,hn1i,hidx,hnode,hk1,hnm1⟩:=Ea hpl1;obtain⟨q',i2,d',n2,htq,hq',hn2,hn2i, -,hnode2,hk2,hnm2⟩:=Ea hpl2;obtain rfl:q=q':=by omega
 obtain rfl:d=d':=Option.some.inj (hq.symm.trans hq');have hvd:=hv.vd d (Aj hq);have hql:=(Ai.1 hq).1;have hil:=(Ai.1 hn1).1;obtain⟨e,he,hle⟩:=ML hnode hk1 (by rw[hl1];exact he1);have hA1:A=(src.1,e.2):=by rw[hl1]at hle;exact congrArg Prod.fst hle
 have hAm:∃m∈d.nodes,m.ino=A.2:=by rw[hA1];exact(hvd.ent n1 (Aj hn1) e (FO he).1).2.2
 obtain⟨X1,X2,m2,hX1,hm2,hm2i,hX2,hasc1,hasc2,hx1l,hx2l,hX2D,hf1,hf2,hb2,⟨r,hr,hr1⟩,⟨am,ham,hami⟩⟩:=YV hv hq hn1 hn2 name name2 A.2 hAm;have hidx2:EX (f.set q ⟨d.next,X1⟩) to=(i2:Int):=QH htq (d:=⟨d.next,X1⟩) (by simp[hql]) hasc1 hm2 (hm2i.trans hn2i)
 have hoo:e2=0→O.1=(q:Int)∧0<(Ch O.2 X2).length:=by
  intro h;obtain⟨e',he',hle'⟩:=ML hnode2 hk2 (by rw[hl2];exact h);have hO1:O=(to.1,e'.2):=by rw[hl2]at hle';exact congrArg Prod.fst hle'
  refine⟨by rw[hO1];exact htq,QF hr ?_⟩;rw[hr1,hO1];exact(hvd.ent n2 (Aj hn2) e' (FO he').1).2.1.symm
 have hO1:e2=0→O.1=A.1:=fun h=>by rw[(hoo h).1,hA1];exact hsq.symm
 obtain⟨NS,hNS⟩:∃NS,NS=(if e2=0 then Bx X2 O.2 else X2):=⟨_,rfl⟩
 have hNSf:NS=X2∨(e2=0∧NS=Bx X2 O.2):=by
  by_cases h:e2=0
  ·exact .inr ⟨h,by rw[hNS,if_pos h]⟩
  exact .inl (by rw[hNS,if_neg h])
 have hsub:NS.Sublist X2:=by
  rcases hNSf with h|⟨_,h⟩
  ·rw[h];exact List.Sublist.refl _
  rw[h];exact List.filter_sublist
 have hasc3:DX NS:=hasc2.sublist hsub
 have hAN:am∈NS:=by
  rcases hNSf with h|⟨h0,h⟩
  ·rw[h];exact ham
  rw[h];refine List.mem_filter.2 ⟨ham,decide_eq_true (.inl fun e=>hoa h0 ?_)⟩;exact Prod.ext (hO1 h0) (by rw[←e,hami])
 obtain⟨i3,hm3⟩:=List.getElem?_of_mem hAN;have hil3:=(Ai.1 hm3).1;have hf3:FlsB (f.set q ⟨d.next,NS⟩):=hf.set_ (by have:=hsub.length_le;have:=hvd.len;show NS.length≤1000;omega) fun m hm=>hb2 m (hsub.subset hm);have hidx3:EX (f.set q ⟨d.next,NS⟩) A=(i3:Int):=QH (by rw[hA1];exact hsq) (d:=⟨d.next,NS⟩) (by simp[hql]) hasc3 hm3 hami;obtain⟨m3,rfl⟩:∃m3,m3=am:=⟨_,rfl⟩;have hm3i:=hami;obtain⟨NS2,hNS2⟩:∃NS2,NS2=FS NS A.2 to.2 (Ag f A):=⟨_,rfl⟩;refine w_ (l_ (h:=?_));refine A7 rfl (DJ [] rfl (.cons _ _ _ _ _ rfl (AM _) .nil) (by decide) .nil (Ki f q d hf hq (by omega)) ?_);rintro r bc tc ⟨rfl,cap,cap1,hcap,hcap1,rfl,rfl⟩;refine⟨rfl,_,(Kn (n:=6) rfl f q d d.nodes cap cap1:Back _ [] _ [_,_,_,_,_,_,_,_]),?_⟩;have hcx1:X1.length≤cap1:=by omega
 have hcx2:X2.length≤cap1:=by omega
 refine Af (h:=s_ (h:=e_ (w_ (l_ (h:=l_ (h:=m_ (h:=?_)))))));refine A7 rfl (DJ [6,7] rfl (.cons _ _ _ _ _ rfl (AM _) (.cons _ _ _ _ _ rfl (AM _) (.cons _ _ _ _ _ rfl (AM _) (.cons _ _ _ _ _ rfl (AM _) .nil)))) (by decide) (.cons _ _ _ _ _ rfl (Fj (by rfl) _ _ _ _ _) (.cons _ _ _ _ _ rfl (FN _ _ _) .nil)) (M7 f q d n1 i src name 0 cap cap1 hf hq hsq hidx hn1 hcap hcap1) ?_);rintro r bc tc ⟨rfl,rfl,rfl⟩;rw[show d.nodes.set i {n1 with entries:=CU n1.entries name 0}=X1 from hX1.symm];refine⟨rfl,_,(Ko (B6 rfl) (B6 rfl) (by decide) f q d X1 cap cap1 cap1:Back _ [6,7] _ [_,_,_,_,_,_,_,_,_]),?_⟩;refine e_ (w_ (l_ (h:=l_ (h:=m_ (h:=f_ (h:=l_ (h:=?_)))))));refine A7 rfl (DJ [6,7] rfl (.cons _ _ _ _ _ rfl (AM _) (.cons _ _ _ _ _ rfl (AM _) (.cons _ _ _ _ _ rfl (AM _) (.cons _ _ _ _ _ rfl (AM _) .nil)))) (by decide) (.cons _ _ _ _ _ rfl (Fj (by rfl) _ _ _ _ _) (.cons _ _ _ _ _ rfl (FN _ _ _) .nil)) (YU f q d ⟨d.next,X1⟩ m2 i2 to name2 A.2 cap cap1 hf1 hql htq hidx2 hm2 hcap hcx1 rfl hx1l) ?_);rintro r bc tc ⟨rfl,rfl,rfl⟩;refine⟨rfl,?_⟩;dsimp only;rw[←hX2];refine⟨_,(Ko (B6 rfl) (B6 rfl) (by decide) f q ⟨d.next,X2⟩ X2 cap cap1 cap1:Back _ [6,7] _ [_,_,_,_,_,_,_,_,_]),?_⟩;refine e_ (?_);refine BY (fun t=>∃capx,NS.length≤capx∧t=⟨look [(2, .v (.string name)),(4, .v (.string name2)),(6, .bp 1 0),(8, .bp 2 0),(10, .bp 3 0),(17, .bp 4 0),(19, .v (.bool (Ag f A))),(20, .bp 5 0),(22, .bp 8 0)],⟨[Al f,AB src,AB to,[.v (.slice none 0 0)],AB A,AB O,DB f q ⟨d.next,NS⟩ 7 cap capx,NB NS capx,[.bs 6 0 2 f.length cap]],[]⟩⟩) ?_ ?_
 ·skip
  refine w_ (m_ (h:=Ac (h:=e_ (?_))));refine A8 rfl (fun hb17=>?_) (fun hb17=>?_)
  ·have hc17:=bp hb17;have he2:e2=0:=hc17;obtain⟨hoq,hkp⟩:=hoo he2;refine AX (l_ (h:=l_ (h:=?_)));refine A7 rfl (DJ [6,7] rfl (.cons _ _ _ _ _ rfl (AM _) (.cons _ _ _ _ _ rfl (AM _) .nil)) (by decide) (.cons _ _ _ _ _ rfl (Fj (by rfl) _ _ _ _ _) (.cons _ _ _ _ _ rfl (FN _ _ _) .nil)) (QG f q ⟨d.next,X2⟩ ⟨d.next,X2⟩ O cap cap1 hf2 hql hoq hcap hcx2 hkp rfl rfl) ?_);rintro r bc tc ⟨rfl,rfl,⟨hns,rfl⟩|⟨hns,cap2,hcap2,rfl⟩⟩
   ·refine⟨rfl,_,(QD (n:=9) rfl (by decide) (by decide) (by decide) f q ⟨d.next,X2⟩ X2 O f.length cap cap cap1 cap1:Back _ [6,7] _ [_,_,_,_,_,_,_,_,_,_,_]),?_⟩;obtain rfl:NS=X2:=by rw[hNS,if_pos (by assumption)];exact hns
    refine AW (?_);refine AJ ?_
    first|exact⟨_,⟨_,hcap2,rfl⟩,EU [0,1,2,3,4,5,6,11,8] (fun i hi=>absurd hi (Nat.not_lt_zero i)) (by decide) (.cons _ _ _ _ _ rfl rfl (.cons _ _ _ _ _ rfl rfl (.cons _ _ _ _ _ rfl rfl (.cons _ _ _ _ _ rfl rfl (.cons _ _ _ _ _ rfl rfl (.cons _ _ _ _ _ rfl rfl (.cons _ _ _ _ _ rfl (JN (by rfl) _ _ _ _ _) (.cons _ _ _ _ _ rfl (GQ _ _ _) (.cons _ _ _ _ _ rfl rfl .nil))))))))) (by repeat (first|exact SubK.nil|refine SubK.cons _ _ _ _ rfl (AM _) ?_))⟩|exact⟨_,⟨_,hcx2,rfl⟩,Bj 9 0 (by simp[At,Aq,Ap,Bq,Br,AB,Al])⟩
   refine⟨rfl,_,(QC (n:=9) rfl (by decide) (by decide) (by decide) f q ⟨d.next,Ch O.2 X2⟩ X2 (Ch O.2 X2) O f.length cap cap cap1 cap2:Back _ [6,7] _ [_,_,_,_,_,_,_,_,_,_,_,_]),?_⟩;have hNSk:NS=Ch O.2 X2:=by rw[hNS,if_pos (by assumption)];exact hns
   rw[←hNSk]at hcap2;rw[←hNSk];refine AW (?_);refine AJ ?_
   first|exact⟨_,⟨_,hcap2,rfl⟩,EU [0,1,2,3,4,5,6,11,8] (fun i hi=>absurd hi (Nat.not_lt_zero i)) (by decide) (.cons _ _ _ _ _ rfl rfl (.cons _ _ _ _ _ rfl rfl (.cons _ _ _ _ _ rfl rfl (.cons _ _ _ _ _ rfl rfl (.cons _ _ _ _ _ rfl rfl (.cons _ _ _ _ _ rfl rfl (.cons _ _ _ _ _ rfl (JN (by rfl) _ _ _ _ _) (.cons _ _ _ _ _ rfl (GQ _ _ _) (.cons _ _ _ _ _ rfl rfl .nil))))))))) (by repeat (first|exact SubK.nil|refine SubK.cons _ _ _ _ rfl (AM _) ?_))⟩|exact⟨_,⟨_,hcx2,rfl⟩,Bj 9 0 (by simp[At,Aq,Ap,Bq,Br,AB,Al])⟩
  have hc17:=bp hb17;have he2:¬e2=0:=hc17;obtain rfl:NS=X2:=by rw[hNS,if_neg he2]
  refine BA (?_);refine AJ ?_
  first|exact⟨_,⟨_,hcap2,rfl⟩,EU [0,1,2,3,4,5,6,11,8] (fun i hi=>absurd hi (Nat.not_lt_zero i)) (by decide) (.cons _ _ _ _ _ rfl rfl (.cons _ _ _ _ _ rfl rfl (.cons _ _ _ _ _ rfl rfl (.cons _ _ _ _ _ rfl rfl (.cons _ _ _ _ _ rfl rfl (.cons _ _ _ _ _ rfl rfl (.cons _ _ _ _ _ rfl (JN (by rfl) _ _ _ _ _) (.cons _ _ _ _ _ rfl (GQ _ _ _) (.cons _ _ _ _ _ rfl rfl .nil))))))))) (by repeat (first|exact SubK.nil|refine SubK.cons _ _ _ _ rfl (AM _) ?_))⟩|exact⟨_,⟨_,hcx2,rfl⟩,Bj 9 0 (by simp[At,Aq,Ap,Bq,Br,AB,Al])⟩
 rintro t ⟨capx,hcapx,rfl⟩;refine BY (fun t=>t=⟨look [(2, .v (.string name)),(4, .v (.string name2)),(6, .bp 1 0),(8, .bp 2 0),(10, .bp 3 0),(17, .bp 4 0),(20, .bp 5 0),(22, .bp 8 0)],⟨[Al f,AB src,AB to,[.v (.slice none 0 0)],AB A,AB O,DB f q ⟨d.next,NS⟩ 7 cap capx,NB NS2 capx,[.bs 6 0 2 f.length cap]],[]⟩⟩) ?_ ?_
 ·skip
  refine w_ (m_ (h:=e_ (?_)));refine A8 rfl (fun hb18=>?_) (fun hb18=>?_)
  ·have hc18:=bp hb18;have e4:NS.set i3 {m3 with parent:=to.2}=NS2:=by rw[hNS2,FS,if_pos hc18,MK hasc3 hm3 (fun n=>{n with parent:=to.2}),hm3i]
   have hset3:SetAt (NB NS capx) (0+i3 * 8+5) [.v (.int .i64 to.2)] (NB NS2 capx):=by
    rw[←e4];exact Py hm3 (by repeat constructor) (by simp)
   refine Bi ([(0,Al f),(1,AB src),(2,AB to),(3,[.v (.slice none 0 0)]),(4,AB A),(5,AB O),(6,DB f q ⟨d.next,NS⟩ 7 cap capx),(8,[.bs 6 0 2 f.length cap])]) 15 (h:=AQ 0 (h:=?_))
   first|refine AF 1 (h:=?_)|refine B4 1 rfl (fun _ hS=>Bh (row:=DB f q ⟨d.next,NS⟩ 7 cap capx) rfl (kb hS rfl) (Gz hql) ⟨rfl,rfl⟩) ?_
   refine AQ 2 (h:=?_)
   first|refine AF 3 (h:=?_)|refine B4 3 rfl (fun _ hS=>Bh (row:=DB f q ⟨d.next,NS⟩ 7 cap capx) rfl (kb hS rfl) (Gz hql) ⟨rfl,rfl⟩) ?_
   refine B4 4 rfl (fun _ hS=>DG (m:=q) rfl rfl htq hql ⟨rfl,rfl⟩) ?_;refine AQ 5 (h:=?_)
   first|refine AF 6 (h:=?_)|refine B4 6 rfl (fun _ hS=>Bh (row:=DB f q ⟨d.next,NS⟩ 7 cap capx) rfl (kb hS rfl) (Gz hql) ⟨rfl,rfl⟩) ?_
   first|refine AF 7 (h:=?_)|refine B4 7 rfl (fun _ hS=>Bh (row:=DB f q ⟨d.next,NS⟩ 7 cap capx) rfl (kb hS rfl) (Gz hql) ⟨rfl,rfl⟩) ?_
   first|refine AF 8 (h:=?_)|refine B4 8 rfl (fun _ hS=>Bh (row:=DB f q ⟨d.next,NS⟩ 7 cap capx) rfl (kb hS rfl) (Gz hql) ⟨rfl,rfl⟩) ?_
   refine AQ 10 (h:=?_)
   first|refine AF 11 (h:=?_)|refine B4 11 rfl (fun _ hS=>Bh (row:=DB f q ⟨d.next,NS⟩ 7 cap capx) rfl (kb hS rfl) (Gz hql) ⟨rfl,rfl⟩) ?_
   refine c_ 9 rfl (ET 2 rfl (.cons _ _ _ _ _ rfl (LeA.of_eq (YN (d:=⟨d.next,NS⟩) hql hcap hcapx (BJ _) (BJ _) rfl rfl)) (.cons _ _ _ _ _ rfl (AM _) .nil)) (Gv (f.set q ⟨d.next,NS⟩) A hf3) ?_);rintro r rfl;refine⟨rfl,?_⟩;refine o_ (h:=?_);refine B4 12 rfl (fun _ hS=>DG (m:=i3) rfl rfl hidx3 hil3 ⟨rfl,rfl⟩) ?_;refine AQ 13 (h:=?_);refine B8 14 rfl (B3 rfl rfl rfl rfl rfl rfl hset3 (by repeat constructor) ?_);refine o_ (h:=z_ (h:=?_));refine AJ ?_;exact⟨_,rfl,Bj 9 0 (by simp[At,Aq,Ap,Bq,Br,AB,Al])⟩
  have hc18:=bp hb18;obtain rfl:NS2=NS:=by rw[hNS2,FS,if_neg (by rw[hc18];decide)]
  refine BA (?_);refine AJ ?_;exact⟨_,rfl,Bj 9 0 (by simp[At,Aq,Ap,Bq,Br,AB,Al])⟩
 rintro t rfl;have hl3:NS2.length=NS.length:=by rw[hNS2];unfold FS;split<;>simp[CZ]
 have hcapx2:NS2.length≤capx:=by omega
 refine BY (fun t=>t=⟨look [(10, .bp 3 0),(11, .sl 7 ([(src,name,A,(0,0)),(to,name2,O,A)].map CN) none),(12, .v (.int .i64 0))],⟨[Al f,AB src,AB to,Al (f.set q ⟨d.next,NS2⟩)],[]⟩⟩) ?_ ?_
 ·skip
  refine Bi ([(0,Al f),(1,AB src),(2,AB to),(4,AB A),(5,AB O),(6,DB f q ⟨d.next,NS⟩ 7 cap capx),(7,NB NS2 capx),(8,[.bs 6 0 2 f.length cap])]) 15 (h:=AF 0 (h:=AF 1 (h:=AP 2 (h:=AF 3 (h:=?_)))));refine B4 4 rfl (fun _ hS=>F0 (y:= .agg (AB (0,0))) (DK ⟨rfl,rfl⟩) (by repeat (first|exact AM _|exact LeA.nil _|exact LeL.refl _|refine LeA.agg ⟨rfl,rfl⟩|refine LeA.tup ⟨rfl,rfl⟩|exact LeL.nil|refine LeL.cons ⟨rfl,rfl⟩ ⟨rfl,rfl⟩|exact LeA.any _)) ⟨rfl,rfl⟩) ?_;refine AF 6 (h:=AP 7 (h:=AF 8 (h:=AF 9 (h:=?_))));refine c_ 5 rfl (DJ [] rfl (.cons _ _ _ _ _ rfl (AM _) (.cons _ _ _ _ _ rfl (AM _) (.cons _ _ _ _ _ rfl (AM _) (.cons _ _ _ _ _ rfl (AM _) .nil)))) (by decide) .nil (YS src name A (0,0)) ?_);rintro r bc tc ⟨rfl,rfl,rfl⟩;refine⟨rfl,_,(YR _ (YT _ _ _ _):Back _ [] _ [_,_,_,_,_,_,_,_,_,_,_,_,_]),?_⟩;refine o_ (h:=?_);refine c_ 10 rfl (AK (Ju to name2 O A) ?_);rintro r rfl;refine o_ (h:=?_);refine c_ 11 rfl (Lg rfl rfl rfl (B6 rfl) JP (by omega) (by omega) (fun h=>absurd h (by omega)) ?_);rintro hg cap4 k bx2 hcp4 hs;obtain⟨rfl,rfl⟩:k=13∧bx2=[_,_,_,_,_,_,_,_,_,_,_,_,_,CJ 7 cap4 ([(src,name,A,(0,0)),(to,name2,O,A)].map CN)]:=hs.eq;refine o_ (h:=?_);refine B8 12 rfl (B3 rfl rfl rfl rfl rfl rfl (by repeat constructor) (by repeat constructor) ?_);refine o_ (h:=BN 13 (h:=BN 14 (h:=z_ (h:=?_))));refine AJ ?_;exact⟨_,rfl,F3 4 2 rfl (congrArg (fun x=>[Al f,AB src,AB to,x]) (G9 (k:=0) (i:=6) (j:=7) (d:=⟨d.next,NS⟩) (d':=⟨d.next,NS2⟩) hql rfl hl3 hcap hcapx2 (B6 rfl) (B6 rfl) rfl rfl)) (.cons _ _ _ _ rfl (AM _) (.cons _ _ _ _ rfl (LeA.of_eq (Ta (rows:=[(src,name,A,(0,0)),(to,name2,O,A)].map CN) (B6 rfl) (YO (n:=4) (k:=1) (j:=13) (B6 rfl) rfl (YP _)) (YQ _) rfl hcp4)) (.cons _ _ _ _ rfl (AM _) .nil)))⟩
 rintro t rfl;refine A6 (?_);refine AA ?_;rw[hRen,if_neg (by rw[hord];simp),if_neg (by simp[he1]),if_neg (by simp[hc5]),if_neg (fun h=>absurd h.2 (by rw[hbl h.1];decide)),if_neg (fun h=>hoa h.1 h.2),if_neg (by rw[h2];simp),htq,Int.toNat_natCast,F7 hq,show GT d.nodes src name to name2 A O e2=NS by rw[hNS,hX2D,hn1i,hn2i];rfl,←hNS2];rfl
end
end Go.Proofs.YtobclmbkdhbnpaaGreatDoor
namespace Go.Proofs.YtobclmbkdhbnpaaGreatDoor
theorem FlsV.set_{f:AT}(h:FlsV f){q:Nat}{d':Dvc}(hd:VD d'):FlsV (f.set q d'):=by
 refine⟨by simpa using h.few,fun d hm=>?_⟩;rcases List.mem_or_eq_of_mem_set hm with h1|h1
 ·exact h.vd d h1
 rw[h1];exact hd
theorem K5{f:AT}{a:A9}(h:Cc f a=true):∃(q i:Nat) (d:Dvc) (m:Nod),a.1=(q:Int)∧f[q]?=some d∧d.nodes[i]?=some m∧m.ino=a.2∧Bo f a=some m∧AZ f a=m:=by
 rcases Gu f a with⟨_,h2⟩|⟨q,i,d,n,h1,h2,h3,h4,h5,h6⟩
 ·simp[Cc,h2]at h
 exact⟨q,i,d,n,h1,h2,h3,h4,h6,by simp[AZ,h6]⟩
theorem Ks{f:AT}{a:A9}{q:Nat}{d:Dvc}{m:Nod}(ha:a.1=(q:Int))(hq:f[q]?=some d)(hd:DX d.nodes)(hm:m∈d.nodes)(hi:m.ino=a.2):Bo f a=some m:=by
 unfold Bo;rw[ha,Hg,hq];simp only
 cases h:d.nodes.find? (fun n=>n.ino==a.2)with
 |none=>
   have:=List.find?_eq_none.1 h m hm;simp[hi]at this
 |some n=>
   have h1:=List.mem_of_find?_eq_some h;have h2:=List.find?_some h;simp only[beq_iff_eq]at h2;rw[Cy hd h1 hm (by omega)]
theorem K6{f:AT}{dir:A9}{name:AE}{n0:Nod}(hn:Bo f dir=some n0)(hk:n0.kind=2)(h:(AD f dir name).2≠0):DL n0.entries name=none∧(AD f dir name).1=(0,0):=by
 unfold AD at h ⊢;rw[hn]at h ⊢;simp only[hk,if_true]at h ⊢;unfold DL;split at h
 ·rename_i he;exact⟨he,rfl⟩
 exact absurd rfl h
theorem QN{f:AT}{dir:A9}{n0:Nod}(hn:Bo f dir=some n0)(h:¬Hi f dir=true):n0.entries.length<12:=by
 unfold Hi at h;rw[hn]at h;simp at h;omega
theorem MN(f:AT)(q:Nat)(g:List Nod→List Nod):(FP f q g).length=f.length:=by simp[FP]
def Hq(f:AT)(R:Dl):Prop:=R.2.2=0→FlsV R.1∧R.1.length=f.length
theorem Dv{f:AT}{e:Int}(h:e≠0):Hq f ([],[],e):=fun h0=>absurd h0 h
theorem K7{f:AT}(hv:FlsV f)(dir:A9)(name:AE)(a:A9):Hq f (E1 f dir name a):=by
 unfold E1;split
 ·rename_i h;exact Dv h
 rename_i hp;split
 ·exact Dv (by decide)
 rename_i hh;split
 ·exact Dv (by decide)
 rename_i hdev;split
 ·exact Dv (by decide)
 rename_i hk;split
 ·exact Dv (by decide)
 rename_i hl;split
 ·exact Dv (by decide)
 rename_i hfl;intro _;obtain⟨q,i,d,n0,hdq,hq,hn0,hino,hidx,hnode,hk0,hnm⟩:=Ea (name:=name) (dir:=dir) (f:=f) (by omega);obtain⟨q',i',d',m,haq,hq',hm,hmi,hnm2,hng⟩:=K5 (f:=f) (a:=a) (by simpa using hh);obtain rfl:q=q':=by omega
 obtain rfl:d=d':=Option.some.inj (hq.symm.trans hq');have hvd:=hv.vd d (Aj hq);have key:=hvd.linked (Aj hn0) hk0 (Aj hm) (by rw[←hng];exact hk) hnm (K6 hnode hk0 hl).1 (QN hnode hfl);rw[hino,hmi]at key;refine⟨?_,by dsimp only;exact MN _ _ _⟩;dsimp only;rw[hdq,Int.toNat_natCast,F7 hq];exact hv.set_ key
theorem Hr{f:AT}{a:A9}{m:Nod}(h:Bo f a=some m):Ag f a=true↔m.kind=2:=by
 unfold Ag;rw[h];simp
theorem Nz{f:AT}{a:A9}{m:Nod}(h:Bo f a=some m):Hj f a=true↔m.entries=[]:=by
 unfold Hj;rw[h];simp
theorem JQ{f:AT}(hv:FlsV f){dir:A9}{name:AE}{q i:Nat}{d:Dvc}{n0:Nod}(hdq:dir.1=(q:Int))(hq:f[q]?=some d)(hn0:d.nodes[i]?=some n0)(hnode:Bo f dir=some n0)(hk0:n0.kind=2)(hl:(AD f dir name).2=0):
    ∃e m,DL n0.entries name=some e∧AD f dir name=((dir.1,e.2),0)∧m∈d.nodes∧e.2=m.ino∧e.2≠1∧Bo f (AD f dir name).1=some m:=by
 obtain⟨e,he,hle⟩:=ML hnode hk0 hl;have hvd:=hv.vd d (Aj hq);obtain⟨_,h1,m,hm,h2⟩:=hvd.ent n0 (Aj hn0) e (FO he).1;refine⟨e,m,he,hle,hm,h2.symm,h1,?_⟩;rw[hle];exact Ks hdq hq hvd.asc hm h2
theorem K8{f:AT}(hv:FlsV f)(dir:A9)(name:AE):Hq f (FQ f dir name):=by
 unfold FQ;split
 ·rename_i h;exact Dv h
 rename_i hp;split
 ·rename_i h;exact Dv h
 rename_i hl;split
 ·exact Dv (by decide)
 rename_i hk;intro _;obtain⟨q,i,d,n0,hdq,hq,hn0,hino,hidx,hnode,hk0,hnm⟩:=Ea (name:=name) (dir:=dir) (f:=f) (by omega);obtain⟨e,m,he,hle,hm,h1,h2,h3⟩:=JQ hv hdq hq hn0 hnode hk0 (name:=name) (by omega);have hvd:=hv.vd d (Aj hq);have key:=hvd.removed (Aj hn0) hm (hvd.leaf m hm fun h=>hk ((Hr h3).2 h)).2 he h1;refine⟨?_,by dsimp only;exact MN _ _ _⟩;dsimp only;rw[hdq,Int.toNat_natCast,F7 hq,show(AD f dir name).1.2=m.ino by rw[hle];exact h1,←hino];exact hv.set_ key
theorem K9{f:AT}(hv:FlsV f)(dir:A9)(name:AE):Hq f (Eu f dir name):=by
 unfold Eu;split
 ·rename_i h;exact Dv h
 rename_i hp;split
 ·rename_i h;exact Dv h
 rename_i hl;split
 ·exact Dv (by decide)
 rename_i hk;split
 ·exact Dv (by decide)
 rename_i hem;intro _;obtain⟨q,i,d,n0,hdq,hq,hn0,hino,hidx,hnode,hk0,hnm⟩:=Ea (name:=name) (dir:=dir) (f:=f) (by omega);obtain⟨e,m,he,hle,hm,h1,h2,h3⟩:=JQ hv hdq hq hn0 hnode hk0 (name:=name) (by omega);have hvd:=hv.vd d (Aj hq);have key:=hvd.removed (Aj hn0) hm ((Nz h3).1 (by simpa using hem)) he h1;refine⟨?_,by dsimp only;exact MN _ _ _⟩;dsimp only;rw[hdq,Int.toNat_natCast,F7 hq,show(AD f dir name).1.2=m.ino by rw[hle];exact h1,←hino];exact hv.set_ key
theorem Kt{f:AT}(hv:FlsV f)(a:A9)(mode uid gid:Int):(GA f a mode uid gid).2=0→FlsV (GA f a mode uid gid).1∧(GA f a mode uid gid).1.length=f.length:=by
 unfold GA;split
 ·intro h;exact absurd h (by decide)
 rename_i hh;split
 ·intro h;exact absurd h (by decide)
 rename_i hp;intro _;obtain⟨q,i,d,m,haq,hq,hm,hmi,hnm2,hng⟩:=K5 (f:=f) (a:=a) (by simpa using hh);have hvd:=hv.vd d (Aj hq);have key:=hvd.attrs (Aj hm) mode uid gid (by rw[←hng];simpa using hp);refine⟨?_,by dsimp only;exact MN _ _ _⟩;dsimp only;rw[haq,Int.toNat_natCast,F7 hq,←hmi];exact hv.set_ key
theorem Hs{f:AT}(hv:FlsV f)(dir:A9)(name:AE)(n:Nod):Hq f (Du f dir name n):=by
 unfold Du;split
 ·rename_i h;exact Dv h
 rename_i hp;split
 ·exact Dv (by decide)
 rename_i hpl;split
 ·exact Dv (by decide)
 rename_i hl;obtain⟨q,i,d,n0,hdq,hq,hn0,hino,hidx,hnode,hk0,hnm⟩:=Ea (name:=name) (dir:=dir) (f:=f) (by omega);have hat:FK f dir.1=some d:=by rw[hdq,Hg,hq]
 rw[hat];simp only;split
 ·exact Dv (by decide)
 rename_i hc;intro _;have hvd:=hv.vd d (Aj hq);have hnm2:=hvd.nextM;have key:=hvd.make (Aj hn0) hk0 hnm (K6 hnode hk0 hl).1 (n:=n) (by simpa using hpl) (by omega) (by omega) (QN hnode (fun h=>hc (.inr (.inr h))));refine⟨?_,by simp⟩;dsimp only;rw[hdq,Int.toNat_natCast,←hino];exact hv.set_ key
theorem YW{ns:List Nod}{a o:Int}{g:Nod→Nod}(hi:∀n,(g n).ino=n.ino)(he:∀n,(g n).entries=n.entries):Bx (CZ ns a g) o=CZ (Bx ns o) a g:=by
 have hc:Bg o (CZ ns a g)=Bg o ns:=by
  unfold Bg
  congr 1
  unfold CZ;rw[List.flatMap_map]
  congr 1
  funext n
  split
  ·rw[he]
  rfl
 unfold Bx;rw[hc];unfold CZ;rw[List.filter_map]
 congr 1
 apply List.filter_congr;intro n _;simp only[Function.comp];split
 ·rw[hi]
 rfl
theorem YX{ns:List Nod}{a:Int}{g:Nod→Nod}(h:∀n∈ns,n.ino=a→g n=n):CZ ns a g=ns:=by
 unfold CZ
 conv=>rhs;rw[←List.map_id ns]
 apply List.map_congr_left;intro n hn;split
 ·rename_i e;rw[h n hn e];rfl
 rfl
theorem YY{ns:List Nod}{a:Int}{g g':Nod→Nod}(h:∀n∈ns,n.ino=a→g n=g' n):CZ ns a g=CZ ns a g':=by
 unfold CZ;apply List.map_congr_left;intro n hn;split
 ·rename_i e;rw[h n hn e]
 rfl
theorem Tf{f:AT}{q:Nat}{d:Dvc}(hq:f[q]?=some d)(hd:DX d.nodes){top:A9}(ht:top.1=(q:Int)):∀(k n:Nat) (a:A9),k<n→a.1=(q:Int)→MH d.nodes k a.2 top.2→Gx f top n a=true
 |_,0,_,h,_,_=>by omega
 |0,n+1,a,_,ha,hk=>by
   have e:a.2=top.2:=hk;unfold Gx;rw[if_neg (by omega),if_pos (Prod.ext (by omega) e)]
 |k+1,n+1,a,h,ha,hk=>by
   obtain⟨m,hm,h1,h2,h3,h4⟩:=hk;unfold Gx;rw[if_neg (by omega)];split
   ·rfl
   have hn:=Ks ha hq hd hm h1;refine Tf hq hd ht k n _ (by omega) ha ?_;simp only[AZ,hn,Option.getD_some];exact h4
theorem GU{f:AT}(hv:FlsV f)(src:A9)(name:AE)(to:A9)(name2:AE):Hq f (CG f src name to name2):=by
 unfold CG;split
 ·rename_i h;exact Dv h
 rename_i hord;obtain⟨hpl1,hpl2⟩:=Ny (f:=f) (x:=src) (y:=to) (name:=name) (name2:=name2) (by omega);split
 ·rename_i h;exact Dv h
 rename_i hl1;split
 ·exact Dv (by decide)
 rename_i hdev;split
 ·exact Dv (by decide)
 rename_i hbel;split
 ·intro _;exact⟨hv,rfl⟩
 rename_i hsame;split
 ·rename_i h;exact Dv h
 rename_i hr2;intro _;obtain⟨q,i,d,n1,hsq,hq,hn1,hn1i,hidx,hnode,hk1,hnm1⟩:=Ea hpl1;obtain⟨q',i2,d',n2,htq,hq',hn2,hn2i, -,hnode2,hk2,hnm2⟩:=Ea hpl2;obtain rfl:q=q':=by omega
 obtain rfl:d=d':=Option.some.inj (hq.symm.trans hq');have hvd:=hv.vd d (Aj hq);obtain⟨e,m,he,hle,hm,hem,he1,hmn⟩:=JQ hv hsq hq hn1 hnode hk1 (name:=name) (by omega);have hA2:(AD f src name).1.2=m.ino:=by rw[hle];exact hem
 have hmoves:Ag f (AD f src name).1=true↔m.kind=2:=Hr hmn
 have hanc:m.kind=2→¬Fm d.nodes n2.ino m.ino:=by
  rintro hmk ⟨k,hk⟩;have hlen:=hvd.anc_len hm hk;have:=hvd.len;refine hbel ⟨hmoves.2 hmk,Tf hq hvd.asc (top:=(AD f src name).1) (by rw[hle];exact hsq) k 17 to (by omega) htq ?_⟩;rw[hA2,←hn2i];exact hk
 have hdiff:n1.ino=n2.ino→name≠name2:=by
  rintro h rfl;have est:to=src:=Prod.ext (by omega) (by omega);subst est;exact hsame ⟨by omega,rfl⟩
 have ho:(DL n2.entries name2=none∧(n2.entries.length<12∨n1.ino=n2.ino)∧(AD f to name2).1.2=0)∨(∃eo o,DL n2.entries name2=some eo∧o∈d.nodes∧eo.2=(AD f to name2).1.2∧o.ino=(AD f to name2).1.2∧(AD f to name2).1.2≠m.ino∧o.entries=[]):=by
  have hr3:DQ f src to (AD f src name).1 (AD f to name2).1 (AD f to name2).2=0:=by omega
  unfold DQ at hr3;by_cases h0:(AD f to name2).2=0
  ·right;rw[if_pos h0]at hr3;obtain⟨eo,o,heo,hleo,hom,heoi,heo1,hon⟩:=JQ hv htq hq hn2 hnode2 hk2 (name:=name2) h0;have hO2:(AD f to name2).1.2=eo.2:=by rw[hleo]
   refine⟨eo,o,heo,hom,hO2.symm,by rw[hO2,heoi],?_,?_⟩
   ·intro h;refine hsame ⟨h0,Prod.ext ?_ (h.trans hA2.symm)⟩;rw[hleo,hle];exact htq.trans hsq.symm
   have hdo:=Hr hon;by_cases hok:o.kind=2
   ·rw[if_neg (fun h=>by
       rw[if_pos h]at hr3;exact absurd hr3 (by decide))]at hr3
    rw[if_neg (fun h=>by rw[hdo.2 hok]at h;exact absurd h.1 (by decide))]at hr3;split at hr3
    ·exact absurd hr3 (by decide)
    rename_i h5;refine(Nz hon).1 ?_
    cases hem2:Hj f (AD f to name2).1 with
    |true=>rfl
    |false=>exact absurd ⟨hdo.2 hok,hem2⟩ h5
   exact(hvd.leaf o hom hok).2
  left;rw[if_neg h0]at hr3;obtain⟨h1,h2⟩:=K6 hnode2 hk2 h0;refine⟨h1,?_,by rw[h2]⟩;split at hr3
  ·exact absurd hr3 (by decide)
  rename_i h3;by_cases hfl:Hi f to=true
  ·right;have:src=to:=Classical.byContradiction fun h=>h3 ⟨hfl,h⟩;rw[hn1i,hn2i,this]
  left;exact QN hnode2 hfl
 have key:=hvd.renamed (Aj hn1) (Aj hn2) hm hk2 he hem hnm2 hdiff hanc ho;refine⟨?_,by dsimp only;exact MN _ _ _⟩;dsimp only;rw[htq,Int.toNat_natCast,F7 hq]
 have hns:FS (GT d.nodes src name to name2 (AD f src name).1 (AD f to name2).1 (AD f to name2).2) (AD f src name).1.2 to.2 (Ag f (AD f src name).1)=Bx (Dd d.nodes n1.ino n2.ino name name2 m.ino) (AD f to name2).1.2:=by
  rw[←TP,hA2,←hn2i]
  have hY:∀y∈BS (BS d.nodes n1.ino name 0) n2.ino name2 m.ino,y.ino=m.ino→y.kind=m.kind:=by
   intro y hy hyi;obtain⟨y1,h1,w1⟩:=Dt hy;obtain⟨y2,h2,w2⟩:=Dt h1;have:y2=m:=Cy hvd.asc h2 hm (by rw[←w2.ino,←w1.ino];exact hyi);rw[w1.kind,w2.kind,this]
  have hpos:∀y∈BS (BS d.nodes n1.ino name 0) n2.ino name2 m.ino,1≤y.ino:=by
   intro y hy;obtain⟨y1,h1,w1⟩:=Dt hy;obtain⟨y2,h2,w2⟩:=Dt h1;rw[w1.ino,w2.ino];exact hvd.pos h2
  have hset:Bx (CZ (BS (BS d.nodes n1.ino name 0) n2.ino name2 m.ino) m.ino (GS n2.ino)) (AD f to name2).1.2=CZ (Bx (BS (BS d.nodes n1.ino name 0) n2.ino name2 m.ino) (AD f to name2).1.2) m.ino (GS n2.ino):=YW (fun n=>by unfold GS;split<;>rfl) (fun n=>by unfold GS;split<;>rfl);rw[hset]
  have hN:GT d.nodes src name to name2 (AD f src name).1 (AD f to name2).1 (AD f to name2).2=Bx (BS (BS d.nodes n1.ino name 0) n2.ino name2 m.ino) (AD f to name2).1.2:=by
   unfold GT;rw[hA2,←hn1i,←hn2i];split
   ·rfl
   rename_i h0;rw[(K6 hnode2 hk2 h0).2];unfold Bx
   symm
   rw[List.filter_eq_self];intro y hy;have:=hpos y hy;exact decide_eq_true (.inl (by show y.ino≠0;omega))
  rw[hN];have hsub:∀y∈Bx (BS (BS d.nodes n1.ino name 0) n2.ino name2 m.ino) (AD f to name2).1.2,y∈BS (BS d.nodes n1.ino name 0) n2.ino name2 m.ino:=fun y hy=>(K4.1 hy).1;unfold FS;split
  ·rename_i hmv;refine YY fun y hy hyi=>?_;unfold GS;rw[if_pos ((hY y (hsub y hy) hyi).trans (hmoves.1 hmv))]
  rename_i hmv;refine(YX fun y hy hyi=>?_).symm;unfold GS;rw[if_neg (fun h=>hmv (hmoves.2 ((hY y (hsub y hy) hyi).symm.trans h)))]
 rw[hns];exact hv.set_ key
end Go.Proofs.YtobclmbkdhbnpaaGreatDoor
namespace Go.Proofs.YtobclmbkdhbnpaaGreatDoor
open Go.RowKit
theorem GB{p:Nat→Bool}{n j:Nat}(hj:j<n)(h:p j=false):(List.range n).all p=false:=List.all_eq_false.2 ⟨j,List.mem_range.2 hj,by rw[h];simp⟩
theorem FT{p:Nat→Bool}{n:Nat}(h:∀i,i<n→p i=true):(List.range n).all p=true:=List.all_eq_true.2 fun i hi=>h i (List.mem_range.1 hi)
theorem FU{p:Nat→Bool}{j:Nat}(h:∀i,i<j→p i=true)(hj:p j=true):∀i,i<j+1→p i=true:=fun i hi=>by
 by_cases e:i=j
 ·rw[e];exact hj
 exact h i (by omega)
structure FlsT(f:AT):Prop where
 b:FlsB f
 nm:∀d∈f,∀n∈d.nodes,∀e∈n.entries,e.1.size≤100000
 tg:∀d∈f,∀n∈d.nodes,n.target.size≤100000
def MO(es:List B1)(i:Nat)(x:B1):Bool:=match es[i - 1]? with
 |some y=> !DA y.1 x.1
 |none=>false
def Fo(f:AT)(dev:Int)(es:List B1)(i:Nat):Bool:=match es[i]? with
 |none=>true
 |some x=>if D4 x.1=false then false else if 0<i∧MO es i x=true then false else if x.2=1 then false else if EX f (dev,x.2)<0 then false else true
def JR(f:AT)(dev:Int)(es:List B1):Bool:=if 12<es.length then false else(List.range es.length).all (Fo f dev es)
theorem Ku{f:AT}{dev:Int}{es:List B1}{j:Nat}(hl:¬12<es.length)(hj:j<es.length)(h:Fo f dev es j=false):JR f dev es=false:=by
 unfold JR;rw[if_neg hl];exact GB hj h
theorem Tg{f:AT}{dev:Int}{es:List B1}(hl:¬12<es.length)(h:∀i,i<es.length→Fo f dev es i=true):JR f dev es=true:=by
 unfold JR;rw[if_neg hl];exact FT h
theorem YZ{es:List B1}{i:Nat}{x y:B1}(h:es[i - 1]?=some y):MO es i x= !DA y.1 x.1:=by unfold MO;rw[h]
def GV(d:Dvc):Nat→Int→Int
 |0,x=>x
 |k+1,x=>GV d k (JJ d x)
def Kv(d:Dvc)(i:Nat):Bool:=match d.nodes[i]? with
 |none=>true
 |some n=>if n.kind=2 then decide (GV d d.nodes.length n.ino=1)else true
def O0(d:Dvc):Bool:=(List.range d.nodes.length).all (Kv d)
section
theorem O1(f:AT)(dev:Int)(n:Nod)(hf:FlsB f)(hn:n.entries.length≤1000)(hnm:∀e∈n.entries,e.1.size≤100000):AFn prog 107 [.agg (Al f), .v (.int .i64 dev), .agg (Ab n)] (fun r=>r= .v (.bool (JR f dev n.entries))):=by
 have hel:(n.entries.map C7).length=n.entries.length:=by simp
 refine enter Tryz.func107 rfl rfl rfl rfl rfl 0 rfl ?_;refine w_ (b_ (h:=b_ (h:=a_ (h:=e_ (q_ (w_ (f_ (h:=l_ (h:=n_ (h:=CS (h:=e_ (?_))))))))))));refine A8 rfl (fun hb1=>?_) (fun hb1=>?_)
 ·have hc1:=bp hb1;refine w_ (a_ (h:=e_ (A6 (A4 (?_)))));refine AA ?_;exact vb (by unfold JR;rw[if_pos (by omega)])
 have hc1:=bp hb1;refine AN (q_ (w_ (a_ (h:=e_ (Ao (?_))))));refine Bm (fun m t=>∃j:Nat,j≤n.entries.length∧m=n.entries.length - j∧(∀i,i<j→Fo f dev n.entries i=true)∧t=⟨look [(1, .v (.int .i64 dev)),(3, .bp 0 0),(5, .bp 1 0),(7, .v (.int .i64 (j:Int)))],⟨[Al f,Ab n],[]⟩⟩) (n.entries.length) ((wk 2 0)) (⟨0,by omega,rfl,fun i hi=>by omega,rfl⟩) ?_;rintro m t ⟨j,hj,rfl,ha,rfl⟩;refine q_ (w_ (m_ (h:=f_ (h:=l_ (h:=n_ (h:=BO (h:=e_ (?_))))))));refine A8 rfl (fun hb2=>?_) (fun hb2=>?_)
 ·have hc2:=bp hb2;obtain⟨hlt,x,hy,hrow, -⟩:=CF C7 hc2;refine AN (q_ (Ao (w_ (f_ (h:=l_ (h:=m_ (h:=i_ (h:=l_ (h:=Af (h:=s_ (h:=e_ (q_ (Dk 34 (h:=AQ 0 (h:=AF 1 (h:=?_))))))))))))))));refine c_ 2 rfl (AK (Ng x.1 (hnm x (Aj hy))) ?_);rintro r rfl;refine o_ (h:=Gt 3 (h:=AP 4 (h:=?_)));refine Da (j:=4) rfl (fun hb3=>?_) (fun hb3=>?_)
  ·have hc3:=bp hb3;refine AG 5 (h:=AG 6 (h:=AG 7 (h:=AG 8 (h:=AG 9 (h:=AG 10 (h:=AG 11 (h:=AG 12 (h:=AG 13 (h:=AG 14 (h:=AG 15 (h:=AG 16 (h:=AG 17 (h:=AG 18 (h:=CQ 19 (h:=AP 20 (h:=AG 21 (h:=AG 22 (h:=AG 23 (h:=CQ 24 (h:=AP 25 (h:=AG 26 (h:=AG 27 (h:=AG 28 (h:=?_))))))))))))))))))))))));refine AG 29 (h:=AG 30 (h:=AG 31 (h:=AG 32 (h:=CQ 33 (h:=z_ (h:=t_ (BQ (h:=w_ (a_ (h:=e_ (A6 (AR (A4 (A4 (AR (A4 (?_)))))))))))))))));refine AA ?_;exact vb (Ku (by omega) hlt (by unfold Fo;simp only[hy];simp_all [DA])).symm
  have hc3:=bp hb3;refine AP 5 (h:=Js 6 (h:=AP 7 (h:=?_)));refine Da (j:=7) rfl (fun hb4=>?_) (fun hb4=>?_)
  ·have hc4:=bp hb4;obtain⟨hlt1,y,hy1,hrow1, -⟩:=CF (l:=n.entries) (k:=j - 1) C7 (by omega);have hpre:=YZ (x:=x) hy1;refine AQ 8 (h:=AF 9 (h:=AP 10 (h:=Ln 11 (h:=?_))));refine F1 (i:=12) rfl (CM (n:=j - 1) rfl rfl (by omega) hrow1 ⟨rfl,rfl⟩) ?_;refine AQ 13 (h:=AF 14 (h:=AQ 15 (h:=AF 16 (h:=PT 17 (h:=CQ 18 (h:=CR 19 (h:=AP 20 (h:=?_))))))));refine Da (j:=20) rfl (fun hb5=>?_) (fun hb5=>?_)
   ·have hc5:=bp hb5;refine AG 21 (h:=AG 22 (h:=AG 23 (h:=CQ 24 (h:=AP 25 (h:=AG 26 (h:=AG 27 (h:=AG 28 (h:=AG 29 (h:=AG 30 (h:=AG 31 (h:=AG 32 (h:=CQ 33 (h:=z_ (h:=t_ (BQ (h:=w_ (a_ (h:=e_ (A6 (AR (A4 (A4 (AR (?_))))))))))))))))))))))));refine A4 (?_);refine AA ?_;exact vb (Ku (by omega) hlt (by unfold Fo;simp only[hy];simp_all [DA])).symm
   have hc5:=bp hb5;refine AQ 21 (h:=AF 22 (h:=GL 23 (h:=CR 24 (h:=AP 25 (h:=?_)))));refine Da (j:=25) rfl (fun hb6=>?_) (fun hb6=>?_)
   ·have hc6:=bp hb6;refine AG 26 (h:=AG 27 (h:=AG 28 (h:=AG 29 (h:=AG 30 (h:=AG 31 (h:=AG 32 (h:=CQ 33 (h:=z_ (h:=t_ (BQ (h:=w_ (a_ (h:=e_ (A6 (AR (A4 (A4 (AR (A4 (?_))))))))))))))))))));refine AA ?_;exact vb (Ku (by omega) hlt (by unfold Fo;simp only[hy];simp_all [DA])).symm
   have hc6:=bp hb6;refine AF 26 (h:=AP 27 (h:=AQ 28 (h:=AF 29 (h:=Fh 30 (h:=?_)))));refine c_ 31 rfl (AK (Gv f (dev,x.2) hf) ?_);rintro r rfl;refine o_ (h:=SU 32 (h:=CR 33 (h:=z_ (h:=t_ (?_)))));refine A8 rfl (fun hb7=>?_) (fun hb7=>?_)
   ·have hc7:=bp hb7;refine w_ (a_ (h:=e_ (A6 (AR (A4 (A4 (AR (A4 (?_)))))))));refine AA ?_;exact vb (Ku (by omega) hlt (by unfold Fo;simp only[hy];simp_all [DA])).symm
   have hc7:=bp hb7;refine BA (Au (t_ (AX (m_ (h:=B2 (h:=a_ (h:=AW (?_))))))));refine AJ ?_;refine⟨_,_,?_,⟨j+1,by omega,rfl,FU ha (by unfold Fo;simp only[hy];simp_all [DA]),rfl⟩,(wk 2 0)⟩;omega
  have hc4:=bp hb4;refine AG 8 (h:=AG 9 (h:=AG 10 (h:=AG 11 (h:=AG 12 (h:=AG 13 (h:=AG 14 (h:=AG 15 (h:=AG 16 (h:=AG 17 (h:=CR 18 (h:=CR 19 (h:=AP 20 (h:=AQ 21 (h:=AF 22 (h:=GL 23 (h:=CR 24 (h:=AP 25 (h:=?_))))))))))))))))));refine Da (j:=25) rfl (fun hb8=>?_) (fun hb8=>?_)
  ·have hc8:=bp hb8;refine AG 26 (h:=AG 27 (h:=AG 28 (h:=AG 29 (h:=AG 30 (h:=AG 31 (h:=AG 32 (h:=CQ 33 (h:=z_ (h:=t_ (BQ (h:=w_ (a_ (h:=e_ (A6 (AR (A4 (A4 (AR (A4 (?_))))))))))))))))))));refine AA ?_;exact vb (Ku (by omega) hlt (by unfold Fo;simp only[hy];simp_all [DA])).symm
  have hc8:=bp hb8;refine AF 26 (h:=AP 27 (h:=AQ 28 (h:=AF 29 (h:=Fh 30 (h:=?_)))));refine c_ 31 rfl (AK (Gv f (dev,x.2) hf) ?_);rintro r rfl;refine o_ (h:=SU 32 (h:=CR 33 (h:=z_ (h:=t_ (?_)))));refine A8 rfl (fun hb9=>?_) (fun hb9=>?_)
  ·have hc9:=bp hb9;refine w_ (a_ (h:=e_ (A6 (AR (A4 (A4 (AR (A4 (?_)))))))));refine AA ?_;exact vb (Ku (by omega) hlt (by unfold Fo;simp only[hy];simp_all [DA])).symm
  have hc9:=bp hb9;refine BA (Au (t_ (AX (m_ (h:=B2 (h:=a_ (h:=AW (?_))))))));refine AJ ?_;refine⟨_,_,?_,⟨j+1,by omega,rfl,FU ha (by unfold Fo;simp only[hy];simp_all [DA]),rfl⟩,(wk 2 0)⟩;omega
 have hc2:=bp hb2;refine BU (Am (Am (BV (t_ (w_ (a_ (h:=e_ (A6 (?_)))))))));refine AA ?_;exact vb (Tg (by omega) (fun i hi=>ha i (by omega))).symm
theorem Ya(d:Dvc)(hd:d.nodes.length≤1000):AFn prog 109 [.agg (Be d)] (fun r=>r= .v (.bool (O0 d))):=by
 have hel:(d.nodes.map Ab).length=d.nodes.length:=by simp
 refine enter Tryz.func109 rfl rfl rfl rfl rfl 0 rfl ?_;refine w_ (b_ (h:=a_ (h:=e_ (q_ (w_ (a_ (h:=e_ (Ao (?_)))))))));refine Bm (fun m t=>∃j:Nat,j≤d.nodes.length∧m=d.nodes.length - j∧(∀i,i<j→Kv d i=true)∧t=⟨look [(1, .bp 0 0),(3, .v (.int .i64 (j:Int)))],⟨[Be d],[]⟩⟩) (d.nodes.length) ((wk 1 0)) (⟨0,by omega,rfl,fun i hi=>by omega,rfl⟩) ?_;rintro m t ⟨j,hj,rfl,ha,rfl⟩;refine q_ (w_ (m_ (h:=f_ (h:=l_ (h:=n_ (h:=BO (h:=e_ (?_))))))));refine A8 rfl (fun hb1=>?_) (fun hb1=>?_)
 ·have hc1:=bp hb1;obtain⟨hlt,n,hy,hrow, -⟩:=CF Ab hc1;refine AN (q_ (Ao (q_ (w_ (f_ (h:=l_ (h:=m_ (h:=?_))))))));refine A7 rfl (CM (n:=j) rfl rfl rfl hrow ?_);refine f_ (h:=l_ (h:=BX (h:=e_ (?_))));refine A8 rfl (fun hb2=>?_) (fun hb2=>?_)
  ·have hc2:=bp hb2;refine BU (Am (BV (t_ (AX (m_ (h:=B2 (h:=a_ (h:=AW (?_)))))))));refine AJ ?_;refine⟨_,_,?_,⟨j+1,by omega,rfl,FU ha (by unfold Kv;simp only[hy];simp_all [GV]),rfl⟩,(wk 1 0)⟩;omega
  have hc2:=bp hb2;refine AN (w_ (f_ (h:=l_ (h:=m_ (h:=?_)))));refine A7 rfl (CM (n:=j) rfl rfl rfl hrow ?_);refine f_ (h:=l_ (h:=a_ (h:=e_ (q_ (w_ (a_ (h:=e_ (Ao (?_)))))))));refine Bm (fun m t=>∃(k:Nat) (x:Int),k≤d.nodes.length∧m=d.nodes.length - k∧GV d (d.nodes.length - k) x=GV d d.nodes.length n.ino∧t=⟨look [(1, .bp 0 0),(3, .v (.int .i64 (j:Int))),(4, .v (.int .i64 x)),(5, .v (.int .i64 (k:Int)))],⟨[Be d],[]⟩⟩) (d.nodes.length) ((wk 1 0)) (⟨0,n.ino,by omega,rfl,rfl,rfl⟩) ?_;rintro m t ⟨k,x,hk,rfl,hx,rfl⟩;refine q_ (w_ (m_ (h:=f_ (h:=l_ (h:=n_ (h:=BO (h:=e_ (?_))))))));refine A8 rfl (fun hb3=>?_) (fun hb3=>?_)
  ·have hc3:=bp hb3;refine AN (q_ (Ao (AX (l_ (h:=m_ (h:=?_))))));refine A7 rfl (AK (XR d x hd) ?_);rintro r rfl;refine a_ (h:=AW (Au (t_ (AX (m_ (h:=B2 (h:=a_ (h:=AW (?_)))))))));refine AJ ?_;refine⟨_,_,?_,⟨k+1,JJ d x,by omega,rfl,(by rw[←hx,show d.nodes.length - k=(d.nodes.length - (k+1))+1 by omega];rfl),rfl⟩,(wk 1 0)⟩;omega
  have hc3:=bp hb3;have ek:k=d.nodes.length:=by omega
  subst ek;rw[Nat.sub_self]at hx;refine BU (Am (Am (BV (t_ (w_ (m_ (h:=BX (h:=e_ (?_)))))))));refine A8 rfl (fun hb4=>?_) (fun hb4=>?_)
  ·have hc4:=bp hb4;refine w_ (a_ (h:=e_ (A6 (AR (A4 (A4 (AR (A4 (?_)))))))));refine AA ?_;exact vb (GB hlt (by unfold Kv;simp only[hy];simp_all [GV])).symm
  have hc4:=bp hb4;refine BA (Au (t_ (AX (m_ (h:=B2 (h:=a_ (h:=AW (?_))))))));refine AJ ?_;refine⟨_,_,?_,⟨j+1,by omega,rfl,FU ha (by unfold Kv;simp only[hy];simp_all [GV]),rfl⟩,(wk 1 0)⟩;omega
 have hc1:=bp hb1;refine BU (Am (Am (BV (t_ (w_ (a_ (h:=e_ (A6 (?_)))))))));refine AA ?_;exact vb (FT (fun i hi=>ha i (by omega))).symm
end
def O2(ns:List Nod)(i:Nat)(n:Nod):Bool:=match ns[i - 1]? with
 |some y=>decide (n.ino≤y.ino)
 |none=>false
theorem Yb{ns:List Nod}{i:Nat}{n y:Nod}(h:ns[i - 1]?=some y):O2 ns i n=decide (n.ino≤y.ino):=by unfold O2;rw[h]
def CH(f:AT)(dev:Int)(d:Dvc)(i:Nat):Bool:=match d.nodes[i]? with
 |none=>true
 |some n=>
   if d.next≤n.ino then false else if 0<i∧O2 d.nodes i n=true then false else if EM n=false then false
   else if n.kind≠2∧(n.parent≠0∨0<n.entries.length)then false else if JR f dev n.entries=false then false
   else if i=0 then true
   else if n.kind=2 then(if(F6 f (dev,n.ino):Int)≠1 then false else if Cc f (dev,n.parent)=false then false else Lq (AZ f (dev,n.parent)) n.ino)
   else if(F6 f (dev,n.ino):Int)<1 then false else true
def B5(d:Dvc):Bool:=
 if d.nodes.length<1 then false else if 16<d.nodes.length then false else if d.next<2 then false else if 1073741824<d.next then false else match d.nodes[0]? with
 |none=>false
 |some r=>if r.ino≠1 then false else if r.kind≠2 then false else if r.parent≠1 then false else true
def Ht(f:AT)(dev:Int)(d:Dvc):Bool:=B5 d&&((List.range d.nodes.length).all (CH f dev d)&&O0 d)
theorem BB{f:AT}{dev:Int}{d:Dvc}(h:B5 d=false):Ht f dev d=false:=by unfold Ht;rw[h];rfl
theorem DC{f:AT}{dev:Int}{d:Dvc}{j:Nat}(hj:j<d.nodes.length)(h:CH f dev d j=false):Ht f dev d=false:=by
 unfold Ht;rw[GB hj h,Bool.false_and,Bool.and_false]
theorem D5{f:AT}{dev:Int}{d:Dvc}(h0:B5 d=true)(h:∀i,i<d.nodes.length→CH f dev d i=true):Ht f dev d=O0 d:=by
 unfold Ht;rw[h0,FT h];rfl
def MP(f:AT)(i:Nat):Bool:=match f[i]? with
 |none=>true
 |some d=>Ht f i d
def JS(f:AT):Bool:=if f.length<1 then false else if 3<f.length then false else(List.range f.length).all (MP f)
section
theorem Yc(f:AT)(q:Nat)(d:Dvc)(hf:FlsT f)(hq:f[q]?=some d):AFn prog 67 [.agg (Al f), .v (.int .i64 (q:Int))] (fun r=>r= .v (.bool (Ht f (q:Int) d))):=by
 have hdm:=Aj hq;have hdn:=hf.b.nodes d hdm;have hel:(d.nodes.map Ab).length=d.nodes.length:=by simp
 have hrq:(f.map Be)[q]?=some (Be d):=by rw[List.getElem?_map,hq];rfl
 have hent:∀(i:Nat) (n:Nod),d.nodes[i]?=some n→n.entries.length≤1000:=fun i n hn=>hf.b.ents d hdm n (Aj hn);have hnm:∀(i:Nat) (n:Nod),d.nodes[i]?=some n→∀e∈n.entries,e.1.size≤100000:=fun i n hn=>hf.nm d hdm n (Aj hn);have htg:∀(i:Nat) (n:Nod),d.nodes[i]?=some n→n.target.size≤100000:=fun i n hn=>hf.tg d hdm n (Aj hn);have hpe:∀a,(AZ f a).entries.length≤1000:=Kc hf.b;refine enter Tryz.func67 rfl rfl rfl rfl rfl 0 rfl ?_;refine w_ (b_ (h:=a_ (h:=e_ (w_ (f_ (h:=l_ (h:=m_ (h:=?_))))))));refine A7 rfl (CM (n:=q) rfl rfl rfl hrq ?_);refine l_ (h:=Af (h:=s_ (h:=e_ (q_ (w_ (f_ (h:=l_ (h:=n_ (h:=BO (h:=m_ (h:=?_)))))))))));refine As false rfl rfl (fun hb1=>?_) (fun hb1=>?_)
 ·have hc1:=bp hb1;refine A3 (h:=A3 (h:=A3 (h:=A3 (h:=AU (h:=m_ (h:=A3 (h:=A3 (h:=A3 (h:=AU (h:=m_ (h:=A3 (h:=A3 (h:=A3 (h:=AU (h:=m_ (h:=A3 (h:=A3 (h:=A3 (h:=A3 (h:=A3 (h:=A3 (h:=AU (h:=m_ (h:=?_))))))))))))))))))))))));refine A3 (h:=A3 (h:=A3 (h:=A3 (h:=A3 (h:=A3 (h:=AU (h:=m_ (h:=A3 (h:=A3 (h:=A3 (h:=A3 (h:=A3 (h:=A3 (h:=AU (h:=e_ (BQ (h:=w_ (a_ (h:=e_ (A6 (A4 (?_))))))))))))))))))))));refine AA ?_
  first|exact vb (DC hlt (by unfold CH;simp only[hy];simp_all)).symm|exact vb (D5 hhd (fun i hi=>ha i (by omega))).symm|exact vb (BB (by unfold B5;rw[if_pos (by omega)])).symm|exact vb (BB (by unfold B5;rw[if_neg (by omega),if_pos (by omega)])).symm|exact vb (BB (by unfold B5;rw[if_neg (by omega),if_neg (by omega)];simp only[hy0];simp_all)).symm
 have hc1:=bp hb1;obtain⟨hlt0,r0,hy0,hrow0, -⟩:=CF (l:=d.nodes) (k:=0) Ab (by omega);refine f_ (h:=l_ (h:=n_ (h:=CS (h:=Ah (h:=m_ (h:=?_))))));refine As false rfl rfl (fun hb2=>?_) (fun hb2=>?_)
 ·have hc2:=bp hb2;refine A3 (h:=A3 (h:=A3 (h:=AU (h:=m_ (h:=A3 (h:=A3 (h:=A3 (h:=AU (h:=m_ (h:=A3 (h:=A3 (h:=A3 (h:=A3 (h:=A3 (h:=A3 (h:=AU (h:=m_ (h:=A3 (h:=A3 (h:=A3 (h:=A3 (h:=A3 (h:=A3 (h:=?_))))))))))))))))))))))));refine AU (h:=m_ (h:=A3 (h:=A3 (h:=A3 (h:=A3 (h:=A3 (h:=A3 (h:=AU (h:=e_ (BQ (h:=w_ (a_ (h:=e_ (A6 (A4 (?_))))))))))))))));refine AA ?_
  first|exact vb (DC hlt (by unfold CH;simp only[hy];simp_all)).symm|exact vb (D5 hhd (fun i hi=>ha i (by omega))).symm|exact vb (BB (by unfold B5;rw[if_pos (by omega)])).symm|exact vb (BB (by unfold B5;rw[if_neg (by omega),if_pos (by omega)])).symm|exact vb (BB (by unfold B5;rw[if_neg (by omega),if_neg (by omega)];simp only[hy0];simp_all)).symm
 have hc2:=bp hb2;refine f_ (h:=l_ (h:=BO (h:=Ah (h:=m_ (h:=?_)))));refine As false rfl rfl (fun hb3=>?_) (fun hb3=>?_)
 ·have hc3:=bp hb3;refine A3 (h:=A3 (h:=A3 (h:=AU (h:=m_ (h:=A3 (h:=A3 (h:=A3 (h:=A3 (h:=A3 (h:=A3 (h:=AU (h:=m_ (h:=A3 (h:=A3 (h:=A3 (h:=A3 (h:=A3 (h:=A3 (h:=AU (h:=m_ (h:=A3 (h:=A3 (h:=A3 (h:=?_))))))))))))))))))))))));refine A3 (h:=A3 (h:=A3 (h:=AU (h:=e_ (BQ (h:=w_ (a_ (h:=e_ (A6 (A4 (?_)))))))))));refine AA ?_
  first|exact vb (DC hlt (by unfold CH;simp only[hy];simp_all)).symm|exact vb (D5 hhd (fun i hi=>ha i (by omega))).symm|exact vb (BB (by unfold B5;rw[if_pos (by omega)])).symm|exact vb (BB (by unfold B5;rw[if_neg (by omega),if_pos (by omega)])).symm|exact vb (BB (by unfold B5;rw[if_neg (by omega),if_neg (by omega)];simp only[hy0];simp_all)).symm
 have hc3:=bp hb3;refine f_ (h:=l_ (h:=CS (h:=Ah (h:=m_ (h:=?_)))));refine As false rfl rfl (fun hb4=>?_) (fun hb4=>?_)
 ·have hc4:=bp hb4;refine A3 (h:=A3 (h:=A3 (h:=A3 (h:=A3 (h:=A3 (h:=AU (h:=m_ (h:=A3 (h:=A3 (h:=A3 (h:=A3 (h:=A3 (h:=A3 (h:=AU (h:=m_ (h:=A3 (h:=A3 (h:=A3 (h:=A3 (h:=A3 (h:=A3 (h:=AU (h:=e_ (?_))))))))))))))))))))))));refine BQ (h:=w_ (a_ (h:=e_ (A6 (A4 (?_))))));refine AA ?_
  first|exact vb (DC hlt (by unfold CH;simp only[hy];simp_all)).symm|exact vb (D5 hhd (fun i hi=>ha i (by omega))).symm|exact vb (BB (by unfold B5;rw[if_pos (by omega)])).symm|exact vb (BB (by unfold B5;rw[if_neg (by omega),if_pos (by omega)])).symm|exact vb (BB (by unfold B5;rw[if_neg (by omega),if_neg (by omega)];simp only[hy0];simp_all)).symm
 have hc4:=bp hb4;refine f_ (h:=l_ (h:=?_));refine Aw (CM (n:=0) rfl rfl rfl hrow0 ?_);refine f_ (h:=l_ (h:=BX (h:=Ah (h:=m_ (h:=?_)))));refine As false rfl rfl (fun hb5=>?_) (fun hb5=>?_)
 ·have hc5:=bp hb5;refine A3 (h:=A3 (h:=A3 (h:=A3 (h:=A3 (h:=A3 (h:=AU (h:=m_ (h:=A3 (h:=A3 (h:=A3 (h:=A3 (h:=A3 (h:=A3 (h:=AU (h:=e_ (BQ (h:=w_ (a_ (h:=e_ (A6 (A4 (?_))))))))))))))))))))));refine AA ?_
  first|exact vb (DC hlt (by unfold CH;simp only[hy];simp_all)).symm|exact vb (D5 hhd (fun i hi=>ha i (by omega))).symm|exact vb (BB (by unfold B5;rw[if_pos (by omega)])).symm|exact vb (BB (by unfold B5;rw[if_neg (by omega),if_pos (by omega)])).symm|exact vb (BB (by unfold B5;rw[if_neg (by omega),if_neg (by omega)];simp only[hy0];simp_all)).symm
 have hc5:=bp hb5;refine f_ (h:=l_ (h:=?_));refine Aw (CM (n:=0) rfl rfl rfl hrow0 ?_);refine f_ (h:=l_ (h:=BX (h:=Ah (h:=m_ (h:=?_)))));refine As false rfl rfl (fun hb6=>?_) (fun hb6=>?_)
 ·have hc6:=bp hb6;refine A3 (h:=A3 (h:=A3 (h:=A3 (h:=A3 (h:=A3 (h:=AU (h:=e_ (BQ (h:=w_ (a_ (h:=e_ (A6 (A4 (?_))))))))))))));refine AA ?_
  first|exact vb (DC hlt (by unfold CH;simp only[hy];simp_all)).symm|exact vb (D5 hhd (fun i hi=>ha i (by omega))).symm|exact vb (BB (by unfold B5;rw[if_pos (by omega)])).symm|exact vb (BB (by unfold B5;rw[if_neg (by omega),if_pos (by omega)])).symm|exact vb (BB (by unfold B5;rw[if_neg (by omega),if_neg (by omega)];simp only[hy0];simp_all)).symm
 have hc6:=bp hb6;refine f_ (h:=l_ (h:=?_));refine Aw (CM (n:=0) rfl rfl rfl hrow0 ?_);refine f_ (h:=l_ (h:=BX (h:=Ah (h:=e_ (?_)))));refine A8 rfl (fun hb7=>?_) (fun hb7=>?_)
 ·have hc7:=bp hb7;refine w_ (a_ (h:=e_ (A6 (A4 (?_)))));refine AA ?_
  first|exact vb (DC hlt (by unfold CH;simp only[hy];simp_all)).symm|exact vb (D5 hhd (fun i hi=>ha i (by omega))).symm|exact vb (BB (by unfold B5;rw[if_pos (by omega)])).symm|exact vb (BB (by unfold B5;rw[if_neg (by omega),if_pos (by omega)])).symm|exact vb (BB (by unfold B5;rw[if_neg (by omega),if_neg (by omega)];simp only[hy0];simp_all)).symm
 have hc7:=bp hb7;have hhd:B5 d=true:=by unfold B5;rw[if_neg (by omega),if_neg (by omega)];simp only[hy0];simp_all
 refine AN (q_ (w_ (a_ (h:=e_ (Ao (?_))))));refine Bm (fun m t=>∃j:Nat,j≤d.nodes.length∧m=d.nodes.length - j∧(∀i,i<j→CH f (q:Int) d i=true)∧t=⟨look [(1, .v (.int .i64 (q:Int))),(2, .bp 0 0),(5, .bp 1 0),(6, .v (.int .i64 (j:Int)))],⟨[Al f,Be d],[]⟩⟩) (d.nodes.length) ((wk 2 0)) (⟨0,by omega,rfl,fun i hi=>by omega,rfl⟩) ?_;rintro m t ⟨j,hj,rfl,ha,rfl⟩;refine q_ (w_ (m_ (h:=f_ (h:=l_ (h:=n_ (h:=BO (h:=e_ (?_))))))));refine A8 rfl (fun hb8=>?_) (fun hb8=>?_)
 ·have hc8:=bp hb8;obtain⟨hlt,n,hy,hrow, -⟩:=CF Ab hc8;refine AN (q_ (Ao (w_ (f_ (h:=l_ (h:=m_ (h:=?_)))))));refine A7 rfl (CM (n:=j) rfl rfl rfl hrow ?_);refine l_ (h:=Af (h:=s_ (h:=e_ (q_ (q_ (Dk 49 (h:=AQ 0 (h:=AF 1 (h:=AQ 2 (h:=AF 3 (h:=PT 4 (h:=AP 5 (h:=?_)))))))))))));refine Da (j:=5) rfl (fun hb9=>?_) (fun hb9=>?_)
  ·have hc9:=bp hb9;refine AG 6 (h:=AG 7 (h:=AG 8 (h:=AG 9 (h:=AG 10 (h:=AG 11 (h:=AG 12 (h:=AG 13 (h:=AG 14 (h:=AG 15 (h:=AG 16 (h:=AG 17 (h:=AG 18 (h:=AG 19 (h:=CQ 20 (h:=AP 21 (h:=AG 22 (h:=AG 23 (h:=AG 24 (h:=CQ 25 (h:=AP 26 (h:=AG 27 (h:=AG 28 (h:=AG 29 (h:=?_))))))))))))))))))))))));refine AG 30 (h:=AG 31 (h:=AG 32 (h:=AG 33 (h:=AG 34 (h:=AG 35 (h:=AG 36 (h:=AG 37 (h:=AG 38 (h:=AG 39 (h:=AG 40 (h:=CQ 41 (h:=AP 42 (h:=AG 43 (h:=AG 44 (h:=AG 45 (h:=AG 46 (h:=AG 47 (h:=CQ 48 (h:=z_ (h:=t_ (BQ (h:=w_ (a_ (h:=?_))))))))))))))))))))))));refine e_ (A6 (A4 (AR (A4 (A4 (AR (A4 (?_))))))));refine AA ?_
   first|exact vb (DC hlt (by unfold CH;simp only[hy];simp_all)).symm|exact vb (D5 hhd (fun i hi=>ha i (by omega))).symm|exact vb (BB (by unfold B5;rw[if_pos (by omega)])).symm|exact vb (BB (by unfold B5;rw[if_neg (by omega),if_pos (by omega)])).symm|exact vb (BB (by unfold B5;rw[if_neg (by omega),if_neg (by omega)];simp only[hy0];simp_all)).symm
  have hc9:=bp hb9;refine AP 6 (h:=Js 7 (h:=AP 8 (h:=?_)));refine Da (j:=8) rfl (fun hb10=>?_) (fun hb10=>?_)
  ·have hc10:=bp hb10;obtain⟨hlt1,y,hy1,hrow1, -⟩:=CF (l:=d.nodes) (k:=j - 1) Ab (by omega);have hpre:=Yb (n:=n) hy1;refine AQ 9 (h:=AF 10 (h:=AP 11 (h:=Ln 12 (h:=?_))));refine F1 (i:=13) rfl (CM (n:=j - 1) rfl rfl (by omega) hrow1 ⟨rfl,rfl⟩) ?_;refine AQ 14 (h:=AF 15 (h:=AQ 16 (h:=AF 17 (h:=PT 18 (h:=CQ 19 (h:=CR 20 (h:=AP 21 (h:=?_))))))));refine Da (j:=21) rfl (fun hb11=>?_) (fun hb11=>?_)
   ·have hc11:=bp hb11;refine AG 22 (h:=AG 23 (h:=AG 24 (h:=CQ 25 (h:=AP 26 (h:=AG 27 (h:=AG 28 (h:=AG 29 (h:=AG 30 (h:=AG 31 (h:=AG 32 (h:=AG 33 (h:=AG 34 (h:=AG 35 (h:=AG 36 (h:=AG 37 (h:=AG 38 (h:=AG 39 (h:=AG 40 (h:=CQ 41 (h:=AP 42 (h:=AG 43 (h:=AG 44 (h:=AG 45 (h:=?_))))))))))))))))))))))));refine AG 46 (h:=AG 47 (h:=CQ 48 (h:=z_ (h:=t_ (BQ (h:=w_ (a_ (h:=e_ (A6 (A4 (AR (A4 (A4 (AR (A4 (?_))))))))))))))));refine AA ?_
    first|exact vb (DC hlt (by unfold CH;simp only[hy];simp_all)).symm|exact vb (D5 hhd (fun i hi=>ha i (by omega))).symm|exact vb (BB (by unfold B5;rw[if_pos (by omega)])).symm|exact vb (BB (by unfold B5;rw[if_neg (by omega),if_pos (by omega)])).symm|exact vb (BB (by unfold B5;rw[if_neg (by omega),if_neg (by omega)];simp only[hy0];simp_all)).symm
   have hc11:=bp hb11;refine AF 22 (h:=?_);refine c_ 23 rfl (AK (Nh n (htg j n hy)) ?_);rintro r rfl;refine o_ (h:=Gt 24 (h:=CR 25 (h:=AP 26 (h:=?_))));refine Da (j:=26) rfl (fun hb12=>?_) (fun hb12=>?_)
   ·have hc12:=bp hb12;refine AG 27 (h:=AG 28 (h:=AG 29 (h:=AG 30 (h:=AG 31 (h:=AG 32 (h:=AG 33 (h:=AG 34 (h:=AG 35 (h:=AG 36 (h:=AG 37 (h:=AG 38 (h:=AG 39 (h:=AG 40 (h:=CQ 41 (h:=AP 42 (h:=AG 43 (h:=AG 44 (h:=AG 45 (h:=AG 46 (h:=AG 47 (h:=CQ 48 (h:=z_ (h:=t_ (?_))))))))))))))))))))))));refine BQ (h:=w_ (a_ (h:=e_ (A6 (A4 (AR (A4 (A4 (AR (A4 (?_)))))))))));refine AA ?_
    first|exact vb (DC hlt (by unfold CH;simp only[hy];simp_all)).symm|exact vb (D5 hhd (fun i hi=>ha i (by omega))).symm|exact vb (BB (by unfold B5;rw[if_pos (by omega)])).symm|exact vb (BB (by unfold B5;rw[if_neg (by omega),if_pos (by omega)])).symm|exact vb (BB (by unfold B5;rw[if_neg (by omega),if_neg (by omega)];simp only[hy0];simp_all)).symm
   have hc12:=bp hb12;refine AQ 27 (h:=AF 28 (h:=JG 29 (h:=AP 30 (h:=?_))));refine Da (j:=30) rfl (fun hb13=>?_) (fun hb13=>?_)
   ·have hc13:=bp hb13;refine AQ 31 (h:=AF 32 (h:=JG 33 (h:=AP 34 (h:=?_))));refine Da (j:=34) rfl (fun hb14=>?_) (fun hb14=>?_)
    ·have hc14:=bp hb14;refine AG 35 (h:=AG 36 (h:=AG 37 (h:=AG 38 (h:=CQ 39 (h:=CQ 40 (h:=CR 41 (h:=AP 42 (h:=AG 43 (h:=AG 44 (h:=AG 45 (h:=AG 46 (h:=AG 47 (h:=CQ 48 (h:=z_ (h:=t_ (BQ (h:=w_ (a_ (h:=e_ (A6 (A4 (AR (A4 (?_))))))))))))))))))))))));refine A4 (AR (A4 (?_)));refine AA ?_
     first|exact vb (DC hlt (by unfold CH;simp only[hy];simp_all)).symm|exact vb (D5 hhd (fun i hi=>ha i (by omega))).symm|exact vb (BB (by unfold B5;rw[if_pos (by omega)])).symm|exact vb (BB (by unfold B5;rw[if_neg (by omega),if_pos (by omega)])).symm|exact vb (BB (by unfold B5;rw[if_neg (by omega),if_neg (by omega)];simp only[hy0];simp_all)).symm
    have hc14:=bp hb14;refine AQ 35 (h:=AF 36 (h:=JF 37 (h:=Js 38 (h:=CR 39 (h:=CQ 40 (h:=CR 41 (h:=AP 42 (h:=?_))))))));refine Da (j:=42) rfl (fun hb15=>?_) (fun hb15=>?_)
    ·have hc15:=bp hb15;refine AG 43 (h:=AG 44 (h:=AG 45 (h:=AG 46 (h:=AG 47 (h:=CQ 48 (h:=z_ (h:=t_ (BQ (h:=w_ (a_ (h:=e_ (A6 (A4 (AR (A4 (A4 (AR (A4 (?_)))))))))))))))))));refine AA ?_
     first|exact vb (DC hlt (by unfold CH;simp only[hy];simp_all)).symm|exact vb (D5 hhd (fun i hi=>ha i (by omega))).symm|exact vb (BB (by unfold B5;rw[if_pos (by omega)])).symm|exact vb (BB (by unfold B5;rw[if_neg (by omega),if_pos (by omega)])).symm|exact vb (BB (by unfold B5;rw[if_neg (by omega),if_neg (by omega)];simp only[hy0];simp_all)).symm
    have hc15:=bp hb15;refine AF 43 (h:=AP 44 (h:=AF 45 (h:=?_)));refine c_ 46 rfl (AK (O1 f (q:Int) n hf.b (hent j n hy) (hnm j n hy)) ?_);rintro r rfl;refine o_ (h:=Gt 47 (h:=CR 48 (h:=z_ (h:=t_ (?_)))));refine A8 rfl (fun hb16=>?_) (fun hb16=>?_)
    ·have hc16:=bp hb16;refine w_ (a_ (h:=e_ (A6 (A4 (AR (A4 (A4 (AR (A4 (?_))))))))));refine AA ?_
     first|exact vb (DC hlt (by unfold CH;simp only[hy];simp_all)).symm|exact vb (D5 hhd (fun i hi=>ha i (by omega))).symm|exact vb (BB (by unfold B5;rw[if_pos (by omega)])).symm|exact vb (BB (by unfold B5;rw[if_neg (by omega),if_pos (by omega)])).symm|exact vb (BB (by unfold B5;rw[if_neg (by omega),if_neg (by omega)];simp only[hy0];simp_all)).symm
    have hc16:=bp hb16;refine AN (w_ (m_ (h:=f_ (h:=l_ (h:=Aa (h:=Af (h:=s_ (h:=e_ (q_ (w_ (m_ (h:=Ac (h:=e_ (?_))))))))))))));refine A8 rfl (fun hb17=>?_) (fun hb17=>?_)
    ·have hc17:=bp hb17;refine BU (Am (BV (t_ (AX (m_ (h:=B2 (h:=a_ (h:=AW (?_)))))))));refine AJ ?_;refine⟨_,_,?_,⟨j+1,by omega,rfl,FU ha (by unfold CH;simp only[hy];simp_all),rfl⟩,(wk 2 0)⟩;omega
    have hc17:=bp hb17;refine AN (w_ (l_ (h:=l_ (h:=?_))));refine A7 rfl (AK (Lr f ((q:Int),n.ino) hf.b) ?_);rintro r rfl;refine a_ (h:=e_ (q_ (w_ (f_ (h:=l_ (h:=BX (h:=m_ (h:=m_ (h:=BO (h:=AU (h:=e_ (?_))))))))))));refine A8 rfl (fun hb18=>?_) (fun hb18=>?_)
    ·have hc18:=bp hb18;refine w_ (a_ (h:=e_ (A6 (A4 (AR (A4 (A4 (AR (A4 (?_))))))))));refine AA ?_
     first|exact vb (DC hlt (by unfold CH;simp only[hy];simp_all)).symm|exact vb (D5 hhd (fun i hi=>ha i (by omega))).symm|exact vb (BB (by unfold B5;rw[if_pos (by omega)])).symm|exact vb (BB (by unfold B5;rw[if_neg (by omega),if_pos (by omega)])).symm|exact vb (BB (by unfold B5;rw[if_neg (by omega),if_neg (by omega)];simp only[hy0];simp_all)).symm
    have hc18:=bp hb18;refine AN (w_ (f_ (h:=l_ (h:=Ac (h:=e_ (F5 (h:=BA (Au (t_ (AX (m_ (h:=B2 (h:=a_ (h:=AW (?_)))))))))))))));refine AJ ?_;refine⟨_,_,?_,⟨j+1,by omega,rfl,FU ha (by unfold CH;simp only[hy];simp_all),rfl⟩,(wk 2 0)⟩;omega
   have hc13:=bp hb13;refine AG 31 (h:=AG 32 (h:=AG 33 (h:=AG 34 (h:=AG 35 (h:=AG 36 (h:=AG 37 (h:=AG 38 (h:=AG 39 (h:=CR 40 (h:=CR 41 (h:=AP 42 (h:=AF 43 (h:=AP 44 (h:=AF 45 (h:=?_)))))))))))))));refine c_ 46 rfl (AK (O1 f (q:Int) n hf.b (hent j n hy) (hnm j n hy)) ?_);rintro r rfl;refine o_ (h:=Gt 47 (h:=CR 48 (h:=z_ (h:=t_ (?_)))));refine A8 rfl (fun hb19=>?_) (fun hb19=>?_)
   ·have hc19:=bp hb19;refine w_ (a_ (h:=e_ (A6 (A4 (AR (A4 (A4 (AR (A4 (?_))))))))));refine AA ?_
    first|exact vb (DC hlt (by unfold CH;simp only[hy];simp_all)).symm|exact vb (D5 hhd (fun i hi=>ha i (by omega))).symm|exact vb (BB (by unfold B5;rw[if_pos (by omega)])).symm|exact vb (BB (by unfold B5;rw[if_neg (by omega),if_pos (by omega)])).symm|exact vb (BB (by unfold B5;rw[if_neg (by omega),if_neg (by omega)];simp only[hy0];simp_all)).symm
   have hc19:=bp hb19;refine AN (w_ (m_ (h:=f_ (h:=l_ (h:=Aa (h:=Af (h:=s_ (h:=e_ (q_ (w_ (m_ (h:=Ac (h:=e_ (?_))))))))))))));refine A8 rfl (fun hb20=>?_) (fun hb20=>?_)
   ·have hc20:=bp hb20;refine BU (Am (BV (t_ (AX (m_ (h:=B2 (h:=a_ (h:=AW (?_)))))))));refine AJ ?_;refine⟨_,_,?_,⟨j+1,by omega,rfl,FU ha (by unfold CH;simp only[hy];simp_all),rfl⟩,(wk 2 0)⟩;omega
   have hc20:=bp hb20;refine AN (w_ (l_ (h:=l_ (h:=?_))));refine A7 rfl (AK (Lr f ((q:Int),n.ino) hf.b) ?_);rintro r rfl;refine a_ (h:=e_ (q_ (w_ (f_ (h:=l_ (h:=BX (h:=m_ (h:=A3 (h:=A3 (h:=Ah (h:=e_ (F5 (h:=AN (w_ (f_ (h:=l_ (h:=Ac (h:=e_ (BQ (h:=w_ (l_ (h:=m_ (h:=f_ (h:=?_))))))))))))))))))))))));refine l_ (h:=Aa (h:=?_));refine A7 rfl (AK (Dm f ((q:Int),n.parent) hf.b) ?_);rintro r rfl;refine m_ (h:=x_ (h:=x_ (h:=Af (h:=s_ (h:=a_ (h:=e_ (w_ (m_ (h:=BX (h:=m_ (h:=?_)))))))))));refine As false rfl rfl (fun hb21=>?_) (fun hb21=>?_)
   ·have hc21:=bp hb21;refine A3 (h:=A3 (h:=AU (h:=m_ (h:=A3 (h:=A3 (h:=A3 (h:=A3 (h:=A3 (h:=AU (h:=e_ (BQ (h:=w_ (a_ (h:=e_ (A6 (AR (A4 (A4 (AR (A4 (?_)))))))))))))))))))));refine AA ?_
    first|exact vb (DC hlt (by unfold CH;simp only[hy];simp_all)).symm|exact vb (D5 hhd (fun i hi=>ha i (by omega))).symm|exact vb (BB (by unfold B5;rw[if_pos (by omega)])).symm|exact vb (BB (by unfold B5;rw[if_neg (by omega),if_pos (by omega)])).symm|exact vb (BB (by unfold B5;rw[if_neg (by omega),if_neg (by omega)];simp only[hy0];simp_all)).symm
   have hc21:=bp hb21;refine m_ (h:=BZ (h:=Ah (h:=m_ (h:=?_))));refine As false rfl rfl (fun hb22=>?_) (fun hb22=>?_)
   ·have hc22:=bp hb22;refine A3 (h:=A3 (h:=A3 (h:=A3 (h:=A3 (h:=AU (h:=e_ (BQ (h:=w_ (a_ (h:=e_ (A6 (AR (A4 (A4 (AR (A4 (?_)))))))))))))))));refine AA ?_
    first|exact vb (DC hlt (by unfold CH;simp only[hy];simp_all)).symm|exact vb (D5 hhd (fun i hi=>ha i (by omega))).symm|exact vb (BB (by unfold B5;rw[if_pos (by omega)])).symm|exact vb (BB (by unfold B5;rw[if_neg (by omega),if_pos (by omega)])).symm|exact vb (BB (by unfold B5;rw[if_neg (by omega),if_neg (by omega)];simp only[hy0];simp_all)).symm
   have hc22:=bp hb22;refine l_ (h:=f_ (h:=l_ (h:=?_)));refine Aw (AK (Sl (AZ f ((q:Int),n.parent)) n.ino (hpe _)) ?_);rintro r rfl;refine BZ (h:=Ah (h:=e_ (?_)));refine A8 rfl (fun hb23=>?_) (fun hb23=>?_)
   ·have hc23:=bp hb23;refine w_ (a_ (h:=e_ (A6 (AR (A4 (A4 (AR (A4 (?_)))))))));refine AA ?_
    first|exact vb (DC hlt (by unfold CH;simp only[hy];simp_all)).symm|exact vb (D5 hhd (fun i hi=>ha i (by omega))).symm|exact vb (BB (by unfold B5;rw[if_pos (by omega)])).symm|exact vb (BB (by unfold B5;rw[if_neg (by omega),if_pos (by omega)])).symm|exact vb (BB (by unfold B5;rw[if_neg (by omega),if_neg (by omega)];simp only[hy0];simp_all)).symm
   have hc23:=bp hb23;refine BA (Au (t_ (AX (m_ (h:=B2 (h:=a_ (h:=AW (?_))))))));refine AJ ?_;refine⟨_,_,?_,⟨j+1,by omega,rfl,FU ha (by unfold CH;simp only[hy];simp_all),rfl⟩,(wk 2 0)⟩;omega
  have hc10:=bp hb10;refine AG 9 (h:=AG 10 (h:=AG 11 (h:=AG 12 (h:=AG 13 (h:=AG 14 (h:=AG 15 (h:=AG 16 (h:=AG 17 (h:=AG 18 (h:=CR 19 (h:=CR 20 (h:=AP 21 (h:=AF 22 (h:=?_))))))))))))));refine c_ 23 rfl (AK (Nh n (htg j n hy)) ?_);rintro r rfl;refine o_ (h:=Gt 24 (h:=CR 25 (h:=AP 26 (h:=?_))));refine Da (j:=26) rfl (fun hb24=>?_) (fun hb24=>?_)
  ·have hc24:=bp hb24;refine AG 27 (h:=AG 28 (h:=AG 29 (h:=AG 30 (h:=AG 31 (h:=AG 32 (h:=AG 33 (h:=AG 34 (h:=AG 35 (h:=AG 36 (h:=AG 37 (h:=AG 38 (h:=AG 39 (h:=AG 40 (h:=CQ 41 (h:=AP 42 (h:=AG 43 (h:=AG 44 (h:=AG 45 (h:=AG 46 (h:=AG 47 (h:=CQ 48 (h:=z_ (h:=t_ (?_))))))))))))))))))))))));refine BQ (h:=w_ (a_ (h:=e_ (A6 (A4 (AR (A4 (A4 (AR (A4 (?_)))))))))));refine AA ?_
   first|exact vb (DC hlt (by unfold CH;simp only[hy];simp_all)).symm|exact vb (D5 hhd (fun i hi=>ha i (by omega))).symm|exact vb (BB (by unfold B5;rw[if_pos (by omega)])).symm|exact vb (BB (by unfold B5;rw[if_neg (by omega),if_pos (by omega)])).symm|exact vb (BB (by unfold B5;rw[if_neg (by omega),if_neg (by omega)];simp only[hy0];simp_all)).symm
  have hc24:=bp hb24;refine AQ 27 (h:=AF 28 (h:=JG 29 (h:=AP 30 (h:=?_))));refine Da (j:=30) rfl (fun hb25=>?_) (fun hb25=>?_)
  ·have hc25:=bp hb25;refine AQ 31 (h:=AF 32 (h:=JG 33 (h:=AP 34 (h:=?_))));refine Da (j:=34) rfl (fun hb26=>?_) (fun hb26=>?_)
   ·have hc26:=bp hb26;refine AG 35 (h:=AG 36 (h:=AG 37 (h:=AG 38 (h:=CQ 39 (h:=CQ 40 (h:=CR 41 (h:=AP 42 (h:=AG 43 (h:=AG 44 (h:=AG 45 (h:=AG 46 (h:=AG 47 (h:=CQ 48 (h:=z_ (h:=t_ (BQ (h:=w_ (a_ (h:=e_ (A6 (A4 (AR (A4 (?_))))))))))))))))))))))));refine A4 (AR (A4 (?_)));refine AA ?_
    first|exact vb (DC hlt (by unfold CH;simp only[hy];simp_all)).symm|exact vb (D5 hhd (fun i hi=>ha i (by omega))).symm|exact vb (BB (by unfold B5;rw[if_pos (by omega)])).symm|exact vb (BB (by unfold B5;rw[if_neg (by omega),if_pos (by omega)])).symm|exact vb (BB (by unfold B5;rw[if_neg (by omega),if_neg (by omega)];simp only[hy0];simp_all)).symm
   have hc26:=bp hb26;refine AQ 35 (h:=AF 36 (h:=JF 37 (h:=Js 38 (h:=CR 39 (h:=CQ 40 (h:=CR 41 (h:=AP 42 (h:=?_))))))));refine Da (j:=42) rfl (fun hb27=>?_) (fun hb27=>?_)
   ·have hc27:=bp hb27;refine AG 43 (h:=AG 44 (h:=AG 45 (h:=AG 46 (h:=AG 47 (h:=CQ 48 (h:=z_ (h:=t_ (BQ (h:=w_ (a_ (h:=e_ (A6 (A4 (AR (A4 (A4 (AR (A4 (?_)))))))))))))))))));refine AA ?_
    first|exact vb (DC hlt (by unfold CH;simp only[hy];simp_all)).symm|exact vb (D5 hhd (fun i hi=>ha i (by omega))).symm|exact vb (BB (by unfold B5;rw[if_pos (by omega)])).symm|exact vb (BB (by unfold B5;rw[if_neg (by omega),if_pos (by omega)])).symm|exact vb (BB (by unfold B5;rw[if_neg (by omega),if_neg (by omega)];simp only[hy0];simp_all)).symm
   have hc27:=bp hb27;refine AF 43 (h:=AP 44 (h:=AF 45 (h:=?_)));refine c_ 46 rfl (AK (O1 f (q:Int) n hf.b (hent j n hy) (hnm j n hy)) ?_);rintro r rfl;refine o_ (h:=Gt 47 (h:=CR 48 (h:=z_ (h:=t_ (?_)))));refine A8 rfl (fun hb28=>?_) (fun hb28=>?_)
   ·have hc28:=bp hb28;refine w_ (a_ (h:=e_ (A6 (A4 (AR (A4 (A4 (AR (A4 (?_))))))))));refine AA ?_
    first|exact vb (DC hlt (by unfold CH;simp only[hy];simp_all)).symm|exact vb (D5 hhd (fun i hi=>ha i (by omega))).symm|exact vb (BB (by unfold B5;rw[if_pos (by omega)])).symm|exact vb (BB (by unfold B5;rw[if_neg (by omega),if_pos (by omega)])).symm|exact vb (BB (by unfold B5;rw[if_neg (by omega),if_neg (by omega)];simp only[hy0];simp_all)).symm
   have hc28:=bp hb28;refine AN (w_ (m_ (h:=f_ (h:=l_ (h:=Aa (h:=Af (h:=s_ (h:=e_ (q_ (w_ (m_ (h:=Ac (h:=e_ (?_))))))))))))));refine A8 rfl (fun hb29=>?_) (fun hb29=>?_)
   ·have hc29:=bp hb29;refine BU (Am (BV (t_ (AX (m_ (h:=B2 (h:=a_ (h:=AW (?_)))))))));refine AJ ?_;refine⟨_,_,?_,⟨j+1,by omega,rfl,FU ha (by unfold CH;simp only[hy];simp_all),rfl⟩,(wk 2 0)⟩;omega
   have hc29:=bp hb29;refine AN (w_ (l_ (h:=l_ (h:=?_))));refine A7 rfl (AK (Lr f ((q:Int),n.ino) hf.b) ?_);rintro r rfl;refine a_ (h:=e_ (q_ (w_ (f_ (h:=l_ (h:=BX (h:=m_ (h:=m_ (h:=BO (h:=AU (h:=e_ (?_))))))))))));refine A8 rfl (fun hb30=>?_) (fun hb30=>?_)
   ·have hc30:=bp hb30;refine w_ (a_ (h:=e_ (A6 (A4 (AR (A4 (A4 (AR (A4 (?_))))))))));refine AA ?_
    first|exact vb (DC hlt (by unfold CH;simp only[hy];simp_all)).symm|exact vb (D5 hhd (fun i hi=>ha i (by omega))).symm|exact vb (BB (by unfold B5;rw[if_pos (by omega)])).symm|exact vb (BB (by unfold B5;rw[if_neg (by omega),if_pos (by omega)])).symm|exact vb (BB (by unfold B5;rw[if_neg (by omega),if_neg (by omega)];simp only[hy0];simp_all)).symm
   have hc30:=bp hb30;refine AN (w_ (f_ (h:=l_ (h:=Ac (h:=e_ (F5 (h:=BA (Au (t_ (AX (m_ (h:=B2 (h:=a_ (h:=AW (?_)))))))))))))));refine AJ ?_;refine⟨_,_,?_,⟨j+1,by omega,rfl,FU ha (by unfold CH;simp only[hy];simp_all),rfl⟩,(wk 2 0)⟩;omega
  have hc25:=bp hb25;refine AG 31 (h:=AG 32 (h:=AG 33 (h:=AG 34 (h:=AG 35 (h:=AG 36 (h:=AG 37 (h:=AG 38 (h:=AG 39 (h:=CR 40 (h:=CR 41 (h:=AP 42 (h:=AF 43 (h:=AP 44 (h:=AF 45 (h:=?_)))))))))))))));refine c_ 46 rfl (AK (O1 f (q:Int) n hf.b (hent j n hy) (hnm j n hy)) ?_);rintro r rfl;refine o_ (h:=Gt 47 (h:=CR 48 (h:=z_ (h:=t_ (?_)))));refine A8 rfl (fun hb31=>?_) (fun hb31=>?_)
  ·have hc31:=bp hb31;refine w_ (a_ (h:=e_ (A6 (A4 (AR (A4 (A4 (AR (A4 (?_))))))))));refine AA ?_
   first|exact vb (DC hlt (by unfold CH;simp only[hy];simp_all)).symm|exact vb (D5 hhd (fun i hi=>ha i (by omega))).symm|exact vb (BB (by unfold B5;rw[if_pos (by omega)])).symm|exact vb (BB (by unfold B5;rw[if_neg (by omega),if_pos (by omega)])).symm|exact vb (BB (by unfold B5;rw[if_neg (by omega),if_neg (by omega)];simp only[hy0];simp_all)).symm
  have hc31:=bp hb31;refine AN (w_ (m_ (h:=f_ (h:=l_ (h:=Aa (h:=Af (h:=s_ (h:=e_ (q_ (w_ (m_ (h:=Ac (h:=e_ (?_))))))))))))));refine A8 rfl (fun hb32=>?_) (fun hb32=>?_)
  ·have hc32:=bp hb32;refine BU (Am (BV (t_ (AX (m_ (h:=B2 (h:=a_ (h:=AW (?_)))))))));refine AJ ?_;refine⟨_,_,?_,⟨j+1,by omega,rfl,FU ha (by unfold CH;simp only[hy];simp_all),rfl⟩,(wk 2 0)⟩;omega
  have hc32:=bp hb32;refine AN (w_ (l_ (h:=l_ (h:=?_))));refine A7 rfl (AK (Lr f ((q:Int),n.ino) hf.b) ?_);rintro r rfl;refine a_ (h:=e_ (q_ (w_ (f_ (h:=l_ (h:=BX (h:=m_ (h:=A3 (h:=A3 (h:=Ah (h:=e_ (F5 (h:=AN (w_ (f_ (h:=l_ (h:=Ac (h:=e_ (BQ (h:=w_ (l_ (h:=m_ (h:=f_ (h:=?_))))))))))))))))))))))));refine l_ (h:=Aa (h:=?_));refine A7 rfl (AK (Dm f ((q:Int),n.parent) hf.b) ?_);rintro r rfl;refine m_ (h:=x_ (h:=x_ (h:=Af (h:=s_ (h:=a_ (h:=e_ (w_ (m_ (h:=BX (h:=m_ (h:=?_)))))))))));refine As false rfl rfl (fun hb33=>?_) (fun hb33=>?_)
  ·have hc33:=bp hb33;refine A3 (h:=A3 (h:=AU (h:=m_ (h:=A3 (h:=A3 (h:=A3 (h:=A3 (h:=A3 (h:=AU (h:=e_ (BQ (h:=w_ (a_ (h:=e_ (A6 (AR (A4 (A4 (AR (A4 (?_)))))))))))))))))))));refine AA ?_
   first|exact vb (DC hlt (by unfold CH;simp only[hy];simp_all)).symm|exact vb (D5 hhd (fun i hi=>ha i (by omega))).symm|exact vb (BB (by unfold B5;rw[if_pos (by omega)])).symm|exact vb (BB (by unfold B5;rw[if_neg (by omega),if_pos (by omega)])).symm|exact vb (BB (by unfold B5;rw[if_neg (by omega),if_neg (by omega)];simp only[hy0];simp_all)).symm
  have hc33:=bp hb33;refine m_ (h:=BZ (h:=Ah (h:=m_ (h:=?_))));refine As false rfl rfl (fun hb34=>?_) (fun hb34=>?_)
  ·have hc34:=bp hb34;refine A3 (h:=A3 (h:=A3 (h:=A3 (h:=A3 (h:=AU (h:=e_ (BQ (h:=w_ (a_ (h:=e_ (A6 (AR (A4 (A4 (AR (A4 (?_)))))))))))))))));refine AA ?_
   first|exact vb (DC hlt (by unfold CH;simp only[hy];simp_all)).symm|exact vb (D5 hhd (fun i hi=>ha i (by omega))).symm|exact vb (BB (by unfold B5;rw[if_pos (by omega)])).symm|exact vb (BB (by unfold B5;rw[if_neg (by omega),if_pos (by omega)])).symm|exact vb (BB (by unfold B5;rw[if_neg (by omega),if_neg (by omega)];simp only[hy0];simp_all)).symm
  have hc34:=bp hb34;refine l_ (h:=f_ (h:=l_ (h:=?_)));refine Aw (AK (Sl (AZ f ((q:Int),n.parent)) n.ino (hpe _)) ?_);rintro r rfl;refine BZ (h:=Ah (h:=e_ (?_)));refine A8 rfl (fun hb35=>?_) (fun hb35=>?_)
  ·have hc35:=bp hb35;refine w_ (a_ (h:=e_ (A6 (AR (A4 (A4 (AR (A4 (?_)))))))));refine AA ?_
   first|exact vb (DC hlt (by unfold CH;simp only[hy];simp_all)).symm|exact vb (D5 hhd (fun i hi=>ha i (by omega))).symm|exact vb (BB (by unfold B5;rw[if_pos (by omega)])).symm|exact vb (BB (by unfold B5;rw[if_neg (by omega),if_pos (by omega)])).symm|exact vb (BB (by unfold B5;rw[if_neg (by omega),if_neg (by omega)];simp only[hy0];simp_all)).symm
  have hc35:=bp hb35;refine BA (Au (t_ (AX (m_ (h:=B2 (h:=a_ (h:=AW (?_))))))));refine AJ ?_;refine⟨_,_,?_,⟨j+1,by omega,rfl,FU ha (by unfold CH;simp only[hy];simp_all),rfl⟩,(wk 2 0)⟩;omega
 have hc8:=bp hb8;refine BU (Am (Am (BV (t_ (w_ (l_ (h:=?_)))))));refine A7 rfl (AK (Ya d hdn) ?_);rintro r rfl;refine a_ (h:=e_ (A6 (?_)));refine AA ?_
 first|exact vb (DC hlt (by unfold CH;simp only[hy];simp_all)).symm|exact vb (D5 hhd (fun i hi=>ha i (by omega))).symm|exact vb (BB (by unfold B5;rw[if_pos (by omega)])).symm|exact vb (BB (by unfold B5;rw[if_neg (by omega),if_pos (by omega)])).symm|exact vb (BB (by unfold B5;rw[if_neg (by omega),if_neg (by omega)];simp only[hy0];simp_all)).symm
theorem Yd(f:AT)(hf:FlsT f):AFn prog 41 [.agg (Al f)] (fun r=>r= .v (.bool (JS f))):=by
 have hfew:=hf.b.few;have hel:(f.map Be).length=f.length:=by simp
 refine enter Tryz.func41 rfl rfl rfl rfl rfl 0 rfl ?_;refine w_ (b_ (h:=a_ (h:=e_ (q_ (w_ (f_ (h:=l_ (h:=n_ (h:=BO (h:=m_ (h:=?_)))))))))));refine As false rfl rfl (fun hb1=>?_) (fun hb1=>?_)
 ·have hc1:=bp hb1;refine A3 (h:=A3 (h:=A3 (h:=A3 (h:=AU (h:=e_ (BQ (h:=w_ (a_ (h:=e_ (A6 (A4 (?_))))))))))));refine AA ?_;exact vb (by unfold JS;rw[if_pos (by omega)])
 have hc1:=bp hb1;refine f_ (h:=l_ (h:=n_ (h:=CS (h:=Ah (h:=e_ (?_))))));refine A8 rfl (fun hb2=>?_) (fun hb2=>?_)
 ·have hc2:=bp hb2;refine w_ (a_ (h:=e_ (A6 (A4 (?_)))));refine AA ?_;exact vb (by unfold JS;rw[if_neg (by omega),if_pos (by omega)])
 have hc2:=bp hb2;refine AN (q_ (w_ (a_ (h:=e_ (Ao (?_))))));refine Bm (fun m t=>∃j:Nat,j≤f.length∧m=f.length - j∧(∀i,i<j→MP f i=true)∧t=⟨look [(1, .bp 0 0),(3, .v (.int .i64 (j:Int)))],⟨[Al f],[]⟩⟩) (f.length) ((wk 1 0)) (⟨0,by omega,rfl,fun i hi=>by omega,rfl⟩) ?_;rintro m t ⟨j,hj,rfl,ha,rfl⟩;refine q_ (w_ (m_ (h:=f_ (h:=l_ (h:=n_ (h:=BO (h:=e_ (?_))))))));refine A8 rfl (fun hb3=>?_) (fun hb3=>?_)
 ·have hc3:=bp hb3;obtain⟨hlt,d,hy,hrow, -⟩:=CF Be hc3;refine AN (q_ (Ao (w_ (l_ (h:=m_ (h:=?_))))));refine A7 rfl (AK (Yc f j d hf hy) ?_);rintro r rfl;refine BZ (h:=e_ (?_));refine A8 rfl (fun hb4=>?_) (fun hb4=>?_)
  ·have hc4:=bp hb4;refine w_ (a_ (h:=e_ (A6 (AR (A4 (A4 (AR (A4 (?_)))))))));refine AA ?_;exact vb (by unfold JS;rw[if_neg (by omega),if_neg (by omega)];exact(GB hlt (by unfold MP;simp only[hy];simp_all)).symm)
  have hc4:=bp hb4;refine BA (Au (t_ (AX (m_ (h:=B2 (h:=a_ (h:=AW (?_))))))));refine AJ ?_;refine⟨_,_,?_,⟨j+1,by omega,rfl,FU ha (by unfold MP;simp only[hy];simp_all),rfl⟩,(wk 1 0)⟩;omega
 have hc3:=bp hb3;refine BU (Am (Am (BV (t_ (w_ (a_ (h:=e_ (A6 (?_)))))))));refine AA ?_;exact vb (by unfold JS;rw[if_neg (by omega),if_neg (by omega)];exact(FT (fun i hi=>ha i (by omega))).symm)
end
end Go.Proofs.YtobclmbkdhbnpaaGreatDoor
