/-
  Part 10 of the proof of FilterLoadsP: what the statement's proof uses of the texts in wip/tpl.
-/
import Derived.Test.YtbgnigjfkbmceaaGreatDoorQd9
open Go.Proofs.Tryz (prog)
set_option maxRecDepth 10000
set_option maxHeartbeats 4000000
set_option linter.unusedVariables false
set_option linter.unusedSimpArgs false
namespace Go.Proofs.YtbgnigjfkbmceaaGreatDoor
open Go.RowKit
theorem Sw{n:Nat}{g:Nat→Option (List AV)}{j sz m cap0 cap:Nat}{rows:List (List AV)}(hn:n≤j)(hg:g j=some (C7 sz cap rows))(hr:∀r∈rows,r.length=sz)(hm:m=rows.length)(hc:rows.length≤cap):Dz n g (.bs j 0 sz m cap0)= .sl sz rows none:=by
 have:Nat.blt j n=false:=by rw[←Bool.not_eq_true,Nat.blt_eq];omega
 simp only[Dz,this];exact Oq hg hr hm hc
theorem Y6(a b c:AA)(x:Kf):∀r∈[AD a,AD b,AD c,E3 x],∀y∈r,∃v,y= .v v:=by
 intro r hr y hy;simp only[List.mem_cons,List.not_mem_nil,or_false]at hr;rcases hr with rfl|rfl|rfl|rfl
 ·simp[AD]at hy;rcases hy with h|h<;>exact⟨_,h⟩
 ·simp[AD]at hy;rcases hy with h|h<;>exact⟨_,h⟩
 ·simp[AD]at hy;rcases hy with h|h<;>exact⟨_,h⟩
 simp[E3]at hy;rcases hy with h|h|h|h|h|h|h<;>exact⟨_,h⟩
theorem Sx{j:Nat}{x:Int}(hx:Ei[j]?=some x):x≠0:=by
 match j,hx with
 |0,hx=>injection hx with hx;omega
 |1,hx=>injection hx with hx;omega
 |2,hx=>injection hx with hx;omega
 |j+3,hx=>exact absurd hx (by simp[Ei])
theorem PS{ns:List Nod}{i k:Nat}{n0 m:Nod}(hi:ns[i]?=some n0)(hk:ns[k]?=some m)(name:AG)(ino:Int):∃m',(entS ns i n0 name ino)[k]?=some m'∧m'.ino=m.ino∧m'.entries.length≤m.entries.length+1:=by
 unfold entS;rw[List.getElem?_set];split
 ·rename_i e;subst e;rw[hi]at hk;injection hk with hk;subst hk;exact⟨{n0 with entries:=CL n0.entries name ino},by rw[if_pos (Ah.1 hi).1],rfl,PN _ _ _⟩
 exact⟨m,hk,rfl,by omega⟩
theorem Sy{ns:List Nod}{i:Nat}{n0:Nod}(hi:ns[i]?=some n0){name:AG}{ino:Int}{m':Nod}(hm:m'∈entS ns i n0 name ino):∃m∈ns,m'.ino=m.ino∧m'.entries.length≤m.entries.length+1:=by
 rcases List.mem_or_eq_of_mem_set hm with h|h
 ·exact⟨m',h,rfl,by omega⟩
 subst h;exact⟨n0,Ar hi,rfl,PN _ _ _⟩
theorem Sz{ns:List Nod}(h:DM ns){i:Nat}{n0:Nod}(hn:ns[i]?=some n0)(name:AG)(ino:Int):DM (entS ns i n0 name ino):=by
 have:=PR (d:=⟨0,ns⟩) h hn name ino;simp only at this;rw[this];exact Jk h _ _ _
theorem Y7(f:AZ)(q:Nat)(d d':Dvc)(n:Nod)(i:Nat)(a:AA)(name:AG)(ino:Int)(cap cap1:Nat)(hf:FlsB (f.set q d'))(hq:q<f.length)(ha:a.1=(q:Int))(hi:ED (f.set q d') a=(i:Int))(hn:d'.nodes[i]?=some n)(hcap:f.length≤cap)(hcap1:d'.nodes.length≤cap1)(hnx:d'.next=d.next)(hl:d'.nodes.length=d.nodes.length):
    ACall prog 232 [.agg [.bs 0 0 2 f.length cap], .agg (AD a), .v (.string name), .v (.int .i64 ino)] [DB f q d 1 cap cap1,NB d'.nodes cap1] (fun r b t=>t=[]∧r= .tup []∧b=[DB f q ⟨d.next,entS d'.nodes i n name ino⟩ 1 cap cap1,NB (entS d'.nodes i n name ino) cap1]):=by
 have key:=Sn f q d' n i a name ino cap cap1 hf hq ha hi hn hcap hcap1;have e1:DB f q d' 1 cap cap1=DB f q d 1 cap cap1:=by unfold DB EE FR;rw[hnx,hl]
 have e2:DB f q d 1 cap cap1=DB f q ⟨d.next,entS d'.nodes i n name ino⟩ 1 cap cap1:=by unfold DB EE FR;rw[F4,hl]
 rw[e1]at key;exact key.mono fun r b t ⟨h1,h2,h3⟩=>⟨h1,h2,by rw[h3,e2]⟩
theorem Y8{f:AZ}(hv:FlsV f){q:Nat}{d:Dvc}(hq:f[q]?=some d){i i2:Nat}{n1 n2:Nod}(hn1:d.nodes[i]?=some n1)(hn2:d.nodes[i2]?=some n2)(name name2:AG)(ai:Int)(ha:∃m∈d.nodes,m.ino=ai):
    ∃(X1 X2:List Nod) (m2:Nod),X1=entS d.nodes i n1 name 0∧X1[i2]?=some m2∧m2.ino=n2.ino∧X2=entS X1 i2 m2 name2 ai∧DM X1∧DM X2∧X1.length=d.nodes.length∧X2.length=d.nodes.length∧X2=BV (BV d.nodes n1.ino name 0) n2.ino name2 ai∧
     FlsB (f.set q ⟨d.next,X1⟩)∧FlsB (f.set q ⟨d.next,X2⟩)∧(∀m∈X2,m.entries.length≤1000)∧(∃m∈X2,m.ino=1)∧∃m∈X2,m.ino=ai:=by
 have hd:=hv.vd d (Ar hq);obtain⟨m2,hm2,hi2,hl2⟩:=PS hn1 hn2 name 0;have e1:=PR hd.asc hn1 name 0;have a1:=Sz hd.asc hn1 name 0;have e2:=PR (d:=⟨0,entS d.nodes i n1 name 0⟩) a1 hm2 name2 ai;simp only at e2;have a2:=Sz a1 hm2 name2 ai
 have hb2:∀m∈entS (entS d.nodes i n1 name 0) i2 m2 name2 ai,m.entries.length≤1000:=fun m hm=>by
  obtain⟨m',h1,_,h2⟩:=Sy hm2 hm;obtain⟨m'',h3,_,h4⟩:=Sy hn1 h1;have:=hd.many m'' h3;omega
 have hmem:∀x:Int,(∃m∈d.nodes,m.ino=x)→∃m∈entS (entS d.nodes i n1 name 0) i2 m2 name2 ai,m.ino=x:=by
  rintro x ⟨m,hm,rfl⟩;obtain⟨k,hk⟩:=List.getElem?_of_mem hm;obtain⟨m',h1,h2,_⟩:=PS hn1 hk name 0;obtain⟨m'',h3,h4,_⟩:=PS hm2 h1 name2 ai;exact⟨m'',Ar h3,h4.trans h2⟩
 obtain⟨r,hr,hr1,_⟩:=hd.rootMem;refine⟨_,_,m2,rfl,hm2,hi2,rfl,a1,a2,F4 _ _ _ _ _,by rw[F4,F4],by rw[e2,e1,hi2],hv.entS hq hn1 name 0,hv.b.set_ ?_ hb2,hb2,hmem 1 ⟨r,hr,hr1⟩,hmem ai ha⟩;show(entS _ _ _ _ _).length≤1000;rw[F4,F4];have:=hd.len;omega
section
theorem Y9(f:AZ)(src:AA)(name:AG)(to:AA)(name2:AG)(hv:FlsV f)(hs:name.size≤100000)(hs2:name2.size≤100000):AFn prog 175 [.agg (Aq f), .agg (AD src), .v (.string name), .agg (AD to), .v (.string name2)] (fun r=>r=CO (EV f src name to name2)):=by
 have hf:=hv.b;have P1:=Ja f src name hf hs;have P2:=Ja f to name2 hf hs2;have L1:=H3 f src name hf;have L2:=H3 f to name2 hf;obtain⟨pa,hpa⟩:∃x,CB f src name=x:=⟨_,rfl⟩;obtain⟨pb,hpb⟩:∃x,CB f to name2=x:=⟨_,rfl⟩;obtain⟨⟨A,e1⟩,hl1⟩:∃x,AO f src name=x:=⟨_,rfl⟩;obtain⟨⟨O,e2⟩,hl2⟩:∃x,AO f to name2=x:=⟨_,rfl⟩;rw[hpa]at P1;rw[hpb]at P2;rw[hl1]at L1;rw[hl2]at L2;simp only at L1 L2
 have hRen:EV f src name to name2=(if F6 pa pb≠0 then([],[],F6 pa pb)else if e1≠0 then([],[],e1)else if src.1≠to.1 then([],[],18)else
     if Am f A=true∧LM f to A=true then([],[],22)else if e2=0∧O=A then(f,[],0)else if DO f src to A O e2≠0 then([],[],DO f src to A O e2)else
     (GB f to.1.toNat fun ns=>Hb (Jo ns src name to name2 A O e2) A.2 to.2 (Am f A),[(src,name,A,(0,0)),(to,name2,O,A)],0)):=by
  unfold EV;rw[hpa,hpb,hl1,hl2]
 have hol:Ei.length=3:=rfl;refine enter Tryz.func175 rfl rfl rfl rfl rfl 0 rfl ?_;refine w_ (b_ (h:=b_ (h:=b_ (h:=Ac (h:=a_ (h:=a_ (h:=e_ (q_ (D7 10 (h:=AY 0 (h:=AY 1 (h:=Ap 2 (h:=AY 4 (h:=AY 5 (h:=Ap 6 (h:=?_))))))))))))))));refine c_ 3 rfl (AJ (P1) ?_);rintro r rfl;refine o_ (h:=?_);refine c_ 7 rfl (AJ (P2) ?_);rintro r rfl;refine o_ (h:=BN 8 (h:=BN 9 (h:=z_ (h:=t_ (w_ (Bo (h:=a_ (h:=e_ (q_ (w_ (a_ (h:=e_ (Af (?_))))))))))))));refine BW (fun m t=>∃j:Nat,j≤Ei.length∧m=Ei.length - j∧(∀i y,i<j→Ei[i]?=some y→¬(pa=y∨pb=y))∧t=⟨look [(2, .v (.string name)),(4, .v (.string name2)),(5, .bp 0 0),(6, .bp 1 0),(8, .bp 2 0),(10, .bp 3 0),(13, .v (.int .i64 pa)),(14, .v (.int .i64 pb)),(15, .sl 1 (Ei.map FL) none),(16, .v (.int .i64 (j:Int)))],⟨[Aq f,AD src,AD to,[.v (.slice none 0 0)]],[]⟩⟩) (Ei.length) ((wk 4 0)) (⟨0,BU _,rfl,fun i y hi=>by omega,rfl⟩) ?_;rintro m t ⟨j,hj,rfl,ha,rfl⟩;refine q_ (w_ (m_ (h:=m_ (h:=n_ (h:=B1 (h:=e_ (?_)))))));refine A9 rfl (fun hb1=>?_) (fun hb1=>?_)
 ·have hc1:=bp hb1;obtain⟨hlt,x,hx,hrow, -⟩:=Bv FL (l:=Ei) hc1;refine AE (q_ (Af (w_ (m_ (h:=m_ (h:=m_ (h:=i_ (h:=l_ (h:=AN (h:=m_ (h:=?_)))))))))));refine AR false rfl rfl (fun hb2=>?_) (fun hb2=>?_)
  ·have hc2:=bp hb2;refine A3 (h:=A3 (h:=A3 (h:=A3 (h:=A3 (h:=A3 (h:=AB (h:=e_ (B2 (h:=q_ (?_))))))))));refine JQ (fun _=>True) 8 (by kernel_rfl) ?_;refine BG (i:=0) rfl rfl (by kernel_rfl) (by first|rfl|exact AM rfl rfl (B9 ‹_›)|exact AM rfl rfl (BA ‹_›)|exact AM rfl rfl (by simp[*])) (fun h0 hS=>E0 ⟨rfl,rfl⟩) trivial ?_;refine BG (i:=1) rfl rfl (by kernel_rfl) (by first|rfl|exact AM rfl rfl (B9 ‹_›)|exact AM rfl rfl (BA ‹_›)|exact AM rfl rfl (by simp[*])) (fun h0 hS=>E6 rfl ⟨rfl,rfl⟩) trivial ?_;refine BG (i:=2) rfl rfl (by kernel_rfl) (by first|rfl|exact AM rfl rfl (B9 ‹_›)|exact AM rfl rfl (BA ‹_›)|exact AM rfl rfl (by simp[*])) (fun h0 hS=>E6 rfl ⟨rfl,rfl⟩) trivial ?_;refine BG (i:=3) rfl rfl (by kernel_rfl) (by first|rfl|exact AM rfl rfl (B9 ‹_›)|exact AM rfl rfl (BA ‹_›)|exact AM rfl rfl (by simp[*])) (fun h0 hS=>DV rfl rfl rfl (by first|assumption|rfl) ⟨rfl,rfl⟩) trivial ?_;refine BG (i:=4) rfl rfl (by kernel_rfl) (by first|rfl|exact AM rfl rfl (B9 ‹_›)|exact AM rfl rfl (BA ‹_›)|exact AM rfl rfl (by simp[*])) (fun h0 hS=>Fv rfl rfl ⟨rfl,rfl⟩) trivial ?_;refine Bm 5 rfl (Bd rfl rfl rfl rfl rfl rfl (by repeat constructor) (by repeat constructor) ?_);refine⟨.inr trivial,?_⟩;refine BG (i:=6) rfl rfl (by kernel_rfl) (by first|rfl|exact AM rfl rfl (B9 ‹_›)|exact AM rfl rfl (BA ‹_›)|exact AM rfl rfl (by simp[*])) (fun h0 hS=>Gl rfl ⟨rfl,rfl⟩) trivial ?_;refine BG (i:=7) rfl rfl (by kernel_rfl) (by first|rfl|exact AM rfl rfl (B9 ‹_›)|exact AM rfl rfl (BA ‹_›)|exact AM rfl rfl (by simp[*])) (fun h0 hS=>Gl rfl ⟨rfl,rfl⟩) trivial ?_;refine z_ (h:=t_ (A4 (AP (A7 (A7 (AP (A7 (?_))))))));refine Au (r:=CO (EV f src name to name2)) none (h5:=?_) (h6:=⟨rfl,rfl,rfl⟩);rw[hRen,show F6 pa pb=x from Ss hx ha (.inl hc2),if_pos (Sx hx)];exact Cu _
  have hc2:=bp hb2;refine m_ (h:=m_ (h:=m_ (h:=i_ (h:=l_ (h:=AN (h:=AF (h:=e_ (?_))))))));refine A9 rfl (fun hb3=>?_) (fun hb3=>?_)
  ·have hc3:=bp hb3;refine q_ (?_);refine JQ (fun _=>True) 8 (by kernel_rfl) ?_;refine BG (i:=0) rfl rfl (by kernel_rfl) (by first|rfl|exact AM rfl rfl (B9 ‹_›)|exact AM rfl rfl (BA ‹_›)|exact AM rfl rfl (by simp[*])) (fun h0 hS=>E0 ⟨rfl,rfl⟩) trivial ?_;refine BG (i:=1) rfl rfl (by kernel_rfl) (by first|rfl|exact AM rfl rfl (B9 ‹_›)|exact AM rfl rfl (BA ‹_›)|exact AM rfl rfl (by simp[*])) (fun h0 hS=>E6 rfl ⟨rfl,rfl⟩) trivial ?_;refine BG (i:=2) rfl rfl (by kernel_rfl) (by first|rfl|exact AM rfl rfl (B9 ‹_›)|exact AM rfl rfl (BA ‹_›)|exact AM rfl rfl (by simp[*])) (fun h0 hS=>E6 rfl ⟨rfl,rfl⟩) trivial ?_;refine BG (i:=3) rfl rfl (by kernel_rfl) (by first|rfl|exact AM rfl rfl (B9 ‹_›)|exact AM rfl rfl (BA ‹_›)|exact AM rfl rfl (by simp[*])) (fun h0 hS=>DV rfl rfl rfl (by first|assumption|rfl) ⟨rfl,rfl⟩) trivial ?_;refine BG (i:=4) rfl rfl (by kernel_rfl) (by first|rfl|exact AM rfl rfl (B9 ‹_›)|exact AM rfl rfl (BA ‹_›)|exact AM rfl rfl (by simp[*])) (fun h0 hS=>Fv rfl rfl ⟨rfl,rfl⟩) trivial ?_;refine Bm 5 rfl (Bd rfl rfl rfl rfl rfl rfl (by repeat constructor) (by repeat constructor) ?_);refine⟨.inr trivial,?_⟩;refine BG (i:=6) rfl rfl (by kernel_rfl) (by first|rfl|exact AM rfl rfl (B9 ‹_›)|exact AM rfl rfl (BA ‹_›)|exact AM rfl rfl (by simp[*])) (fun h0 hS=>Gl rfl ⟨rfl,rfl⟩) trivial ?_;refine BG (i:=7) rfl rfl (by kernel_rfl) (by first|rfl|exact AM rfl rfl (B9 ‹_›)|exact AM rfl rfl (BA ‹_›)|exact AM rfl rfl (by simp[*])) (fun h0 hS=>Gl rfl ⟨rfl,rfl⟩) trivial ?_;refine z_ (h:=t_ (A4 (AP (A7 (A7 (AP (A7 (?_))))))));refine Au (r:=CO (EV f src name to name2)) none (h5:=?_) (h6:=⟨rfl,rfl,rfl⟩);rw[hRen,show F6 pa pb=x from Ss hx ha (.inr hc3),if_pos (Sx hx)];exact Cu _
  have hc3:=bp hb3;refine Aw (Al (t_ (AW (m_ (h:=BE (h:=a_ (h:=AQ (?_))))))));refine AK ?_;refine⟨_,_,?_,⟨j+1,hlt,rfl,FO hx ha (not_or.2 ⟨hc2,hc3⟩),rfl⟩,(wk 4 0)⟩;omega
 have hc1:=bp hb1;have e3:=CM FL (l:=Ei) hj hc1;subst e3;have hord:F6 pa pb=0:=Xy ha;obtain⟨hpl1,hpl2⟩:=Sv (f:=f) (x:=src) (y:=to) (name:=name) (name2:=name2) (by rw[hpa,hpb];exact hord);refine BL (Ai (Ai (BM (t_ (w_ (l_ (h:=l_ (h:=m_ (h:=?_)))))))));refine A6 rfl (AJ (L1) ?_);rintro r rfl;refine m_ (h:=x_ (h:=x_ (h:=Ac (h:=s_ (h:=a_ (h:=e_ (q_ (w_ (m_ (h:=Ao (h:=e_ (?_))))))))))));refine A9 rfl (fun hb4=>?_) (fun hb4=>?_)
 ·have hc4:=bp hb4;refine w_ (Ab (h:=m_ (h:=s_ (h:=a_ (h:=a_ (h:=e_ (A4 (A7 (?_)))))))));refine Au (r:=CO (EV f src name to name2)) none (h5:=?_) (h6:=⟨rfl,rfl,rfl⟩);rw[hRen,if_neg (by rw[hord];simp),if_pos hc4];exact Cu _
 have hc4:=bp hb4;have he1:e1=0:=by omega
 refine AE (q_ (w_ (f_ (h:=l_ (h:=f_ (h:=l_ (h:=Ao (h:=e_ (?_)))))))));refine A9 rfl (fun hb5=>?_) (fun hb5=>?_)
 ·have hc5:=bp hb5;refine w_ (Ab (h:=s_ (h:=a_ (h:=a_ (h:=e_ (A4 (A7 (?_))))))));refine Au (r:=CO (EV f src name to name2)) none (h5:=?_) (h6:=⟨rfl,rfl,rfl⟩);rw[hRen,if_neg (by rw[hord];simp),if_neg (by simp[he1]),if_pos hc5];exact Cu _
 have hc5:=bp hb5;refine AE (w_ (l_ (h:=l_ (h:=?_))));refine A6 rfl (AJ (GS f A hf) ?_);rintro r rfl;refine a_ (h:=e_ (?_));refine CA (fun t=>(Am f A=true→LM f to A=false)∧t=⟨look [(2, .v (.string name)),(4, .v (.string name2)),(5, .bp 0 0),(6, .bp 1 0),(8, .bp 2 0),(10, .bp 3 0),(17, .bp 4 0),(19, .v (.bool (Am f A)))],⟨[Aq f,AD src,AD to,[.v (.slice none 0 0)],AD A],[]⟩⟩) ?_ ?_
 ·skip
  refine w_ (m_ (h:=m_ (h:=?_)));refine AR true rfl rfl (fun hb6=>?_) (fun hb6=>?_)
  ·have hc6:=bp hb6;refine l_ (h:=l_ (h:=l_ (h:=?_)));refine Av (AJ (WV f to A hf) ?_);rintro r rfl;refine AB (h:=e_ (?_));refine A9 rfl (fun hb7=>?_) (fun hb7=>?_)
   ·have hc7:=bp hb7;refine w_ (Ab (h:=s_ (h:=a_ (h:=a_ (h:=e_ (A4 (A7 (?_))))))));refine Au (r:=CO (EV f src name to name2)) none (h5:=?_) (h6:=⟨rfl,rfl,rfl⟩);rw[hRen,if_neg (by rw[hord];simp),if_neg (by simp[he1]),if_neg (by simp[hc5]),if_pos ⟨hc6,hc7⟩];exact Cu _
   have hc7:=bp hb7;have hbl:Am f A=true→LM f to A=false:=fun _=>hc7;refine Aw (?_);refine AK ?_;exact⟨_,⟨hbl,rfl⟩,(wk 5 0)⟩
  have hc6:=bp hb6;have hbl:Am f A=true→LM f to A=false:=fun h=>absurd (h.symm.trans hc6) (by decide);refine A3 (h:=A3 (h:=A3 (h:=A3 (h:=AF (h:=e_ (Be (h:=Aw (?_))))))));refine AK ?_;exact⟨_,⟨hbl,rfl⟩,(wk 5 0)⟩
 rintro t ⟨hbl,rfl⟩;refine w_ (l_ (h:=l_ (h:=m_ (h:=?_))));refine A6 rfl (AJ (L2) ?_);rintro r rfl;refine m_ (h:=x_ (h:=x_ (h:=Ac (h:=s_ (h:=a_ (h:=e_ (?_)))))));refine CA (fun t=>(e2=0→O≠A)∧t=⟨look [(2, .v (.string name)),(4, .v (.string name2)),(5, .bp 0 0),(6, .bp 1 0),(8, .bp 2 0),(10, .bp 3 0),(17, .bp 4 0),(18, .v (.int .i64 e2)),(19, .v (.bool (Am f A))),(20, .bp 5 0)],⟨[Aq f,AD src,AD to,[.v (.slice none 0 0)],AD A,AD O],[]⟩⟩) ?_ ?_
 ·skip
  refine w_ (m_ (h:=AN (h:=m_ (h:=?_))));refine AR true rfl rfl (fun hb8=>?_) (fun hb8=>?_)
  ·have hc8:=bp hb8;refine l_ (h:=l_ (h:=?_));refine Av (Ea rfl rfl (by repeat constructor) (by repeat constructor) (fun w=>Kh _ _ _ _ w) (by kernel_rfl) ?_);refine AB (h:=e_ (?_));refine A9 rfl (fun hb9=>?_) (fun hb9=>?_)
   ·have hc9:=bp hb9;refine w_ (l_ (h:=?_));refine A6 rfl (AJ (Sr f hf) ?_);rintro r rfl;refine s_ (h:=a_ (h:=a_ (h:=e_ (A4 (A7 (?_))))));refine Au (r:=CO (EV f src name to name2)) none (h5:=?_) (h6:=⟨rfl,rfl,rfl⟩);rw[hRen,if_neg (by rw[hord];simp),if_neg (by simp[he1]),if_neg (by simp[hc5]),if_neg (fun h=>absurd h.2 (by rw[hbl h.1];decide)),if_pos ⟨hc8,hc9⟩];exact Xz _
   have hc9:=bp hb9;have hoa:e2=0→O≠A:=fun _=>hc9;refine Aw (?_);refine AK ?_;exact⟨_,⟨hoa,rfl⟩,(wk 6 0)⟩
  have hc8:=bp hb8;have hoa:e2=0→O≠A:=fun h=>absurd h hc8;refine A3 (h:=A3 (h:=A3 (h:=AF (h:=e_ (Be (h:=Aw (?_)))))));refine AK ?_;exact⟨_,⟨hoa,rfl⟩,(wk 6 0)⟩
 rintro t ⟨hoa,rfl⟩;refine CA (fun t=>DO f src to A O e2=0∧t=⟨look [(2, .v (.string name)),(4, .v (.string name2)),(5, .bp 0 0),(6, .bp 1 0),(8, .bp 2 0),(10, .bp 3 0),(17, .bp 4 0),(18, .v (.int .i64 e2)),(19, .v (.bool (Am f A))),(20, .bp 5 0)],⟨[Aq f,AD src,AD to,[.v (.slice none 0 0)],AD A,AD O],[]⟩⟩) ?_ ?_
 ·skip
  refine w_ (m_ (h:=AN (h:=e_ (?_))));refine A9 rfl (fun hb10=>?_) (fun hb10=>?_)
  ·have hc10:=bp hb10;refine w_ (l_ (h:=l_ (h:=?_)));refine A6 rfl (AJ (GS f O hf) ?_);rintro r rfl;refine a_ (h:=e_ (q_ (w_ (m_ (h:=m_ (h:=?_))))));refine AR true rfl rfl (fun hb11=>?_) (fun hb11=>?_)
   ·have hc11:=bp hb11;refine m_ (h:=BB (h:=AB (h:=e_ (?_))));refine A9 rfl (fun hb12=>?_) (fun hb12=>?_)
    ·have hc12:=bp hb12;refine w_ (Ab (h:=s_ (h:=a_ (h:=a_ (h:=e_ (A4 (A7 (A7 (?_)))))))));refine Au (r:=CO (EV f src name to name2)) none (h5:=?_) (h6:=⟨rfl,rfl,rfl⟩);have h2:DO f src to A O e2=21:=by unfold DO;simp[hc10,hc11,hc12]
     rw[hRen,if_neg (by rw[hord];simp),if_neg (by simp[he1]),if_neg (by simp[hc5]),if_neg (fun h=>absurd h.2 (by rw[hbl h.1];decide)),if_neg (fun h=>hoa h.1 h.2),h2,if_pos (by decide)];exact Cu _
    have hc12:=bp hb12;refine AE (q_ (w_ (m_ (h:=BB (h:=m_ (h:=A3 (h:=AF (h:=e_ (Be (h:=AE (w_ (m_ (h:=m_ (h:=l_ (h:=l_ (h:=?_))))))))))))))));refine Av (AJ (Rb f O hf) ?_);rintro r rfl;refine BB (h:=AB (h:=e_ (?_)));refine A9 rfl (fun hb13=>?_) (fun hb13=>?_)
    ·have hc13:=bp hb13;refine w_ (Ab (h:=s_ (h:=a_ (h:=a_ (h:=e_ (A4 (A7 (?_))))))));refine Au (r:=CO (EV f src name to name2)) none (h5:=?_) (h6:=⟨rfl,rfl,rfl⟩);have h2:DO f src to A O e2=39:=by unfold DO;simp[hc10,hc11,hc12,hc13]
     rw[hRen,if_neg (by rw[hord];simp),if_neg (by simp[he1]),if_neg (by simp[hc5]),if_neg (fun h=>absurd h.2 (by rw[hbl h.1];decide)),if_neg (fun h=>hoa h.1 h.2),h2,if_pos (by decide)];exact Cu _
    have hc13:=bp hb13;have h2:DO f src to A O e2=0:=by unfold DO;simp[hc10,hc11,hc12,hc13]
    refine Aw (?_);refine AK ?_;exact⟨_,⟨h2,rfl⟩,(wk 6 0)⟩
   have hc11:=bp hb11;refine A3 (h:=A3 (h:=AF (h:=e_ (Be (h:=AE (q_ (w_ (m_ (h:=BB (h:=m_ (h:=m_ (h:=AB (h:=e_ (?_))))))))))))));refine A9 rfl (fun hb14=>?_) (fun hb14=>?_)
   ·have hc14:=bp hb14;refine w_ (Ab (h:=s_ (h:=a_ (h:=a_ (h:=e_ (A4 (A7 (A7 (?_)))))))));refine Au (r:=CO (EV f src name to name2)) none (h5:=?_) (h6:=⟨rfl,rfl,rfl⟩);have h2:DO f src to A O e2=20:=by unfold DO;simp[hc10,hc11,hc14]
    rw[hRen,if_neg (by rw[hord];simp),if_neg (by simp[he1]),if_neg (by simp[hc5]),if_neg (fun h=>absurd h.2 (by rw[hbl h.1];decide)),if_neg (fun h=>hoa h.1 h.2),h2,if_pos (by decide)];exact Cu _
   have hc14:=bp hb14;have h2:DO f src to A O e2=0:=by unfold DO;simp[hc10,hc11,hc14]
   refine AE (w_ (m_ (h:=m_ (h:=A3 (h:=A3 (h:=A3 (h:=A3 (h:=AF (h:=e_ (Be (h:=Aw (?_))))))))))));refine AK ?_;exact⟨_,⟨h2,rfl⟩,(wk 6 0)⟩
  have hc10:=bp hb10;refine w_ (l_ (h:=l_ (h:=?_)));refine A6 rfl (AJ (OR f to hf) ?_);rintro r rfl;refine m_ (h:=?_);refine AR true rfl rfl (fun hb15=>?_) (fun hb15=>?_)
  ·have hc15:=bp hb15;refine l_ (h:=l_ (h:=?_));refine Av (Ea rfl rfl (by repeat constructor) (by repeat constructor) (fun w=>Rd _ _ _ _ w) (by kernel_rfl) ?_);refine AB (h:=e_ (?_));refine A9 rfl (fun hb16=>?_) (fun hb16=>?_)
   ·have hc16:=bp hb16;refine w_ (Ab (h:=s_ (h:=a_ (h:=a_ (h:=e_ (A4 (A7 (?_))))))));refine Au (r:=CO (EV f src name to name2)) none (h5:=?_) (h6:=⟨rfl,rfl,rfl⟩);have h2:DO f src to A O e2=28:=by unfold DO;rw[if_neg hc10,if_pos ⟨hc15,hc16⟩]
    rw[hRen,if_neg (by rw[hord];simp),if_neg (by simp[he1]),if_neg (by simp[hc5]),if_neg (fun h=>absurd h.2 (by rw[hbl h.1];decide)),if_neg (fun h=>hoa h.1 h.2),h2,if_pos (by decide)];exact Cu _
   have hc16:=bp hb16;have h2:DO f src to A O e2=0:=by unfold DO;rw[if_neg hc10,if_neg (fun h=>h.2 hc16)]
   refine Aw (?_);refine AK ?_;exact⟨_,⟨h2,rfl⟩,(wk 6 0)⟩
  have hc15:=bp hb15;have h2:DO f src to A O e2=0:=by unfold DO;rw[if_neg hc10,if_neg (fun h=>absurd (h.1.symm.trans hc15) (by decide))]
  refine A3 (h:=A3 (h:=A3 (h:=AF (h:=e_ (Be (h:=Aw (?_)))))));refine AK ?_;exact⟨_,⟨h2,rfl⟩,(wk 6 0)⟩
 rintro t ⟨h2,rfl⟩;obtain⟨q,i,d,n1,hsq,hq,hn1,hn1i,hidx,hnode,hk1,hnm1⟩:=FV hpl1;obtain⟨q',i2,d',n2,htq,hq',hn2,hn2i, -,hnode2,hk2,hnm2⟩:=FV hpl2;obtain rfl:q=q':=by omega
 obtain rfl:d=d':=Option.some.inj (hq.symm.trans hq');have hvd:=hv.vd d (Ar hq);have hql:=(Ah.1 hq).1;have hil:=(Ah.1 hn1).1;obtain⟨e,he,hle⟩:=LK hnode hk1 (by rw[hl1];exact he1);have hA1:A=(src.1,e.2):=by rw[hl1]at hle;exact congrArg Prod.fst hle
 have hAm:∃m∈d.nodes,m.ino=A.2:=by rw[hA1];exact(hvd.ent n1 (Ar hn1) e (Fg he).1).2.2
 obtain⟨X1,X2,m2,hX1,hm2,hm2i,hX2,hasc1,hasc2,hx1l,hx2l,hX2D,hf1,hf2,hb2,⟨r,hr,hr1⟩,⟨am,ham,hami⟩⟩:=Y8 hv hq hn1 hn2 name name2 A.2 hAm;have hidx2:ED (f.set q ⟨d.next,X1⟩) to=(i2:Int):=PQ htq (d:=⟨d.next,X1⟩) (by simp[hql]) hasc1 hm2 (hm2i.trans hn2i)
 have hoo:e2=0→O.1=(q:Int)∧0<(CU O.2 X2).length:=by
  intro h;obtain⟨e',he',hle'⟩:=LK hnode2 hk2 (by rw[hl2];exact h);have hO1:O=(to.1,e'.2):=by rw[hl2]at hle';exact congrArg Prod.fst hle'
  refine⟨by rw[hO1];exact htq,PO hr ?_⟩;rw[hr1,hO1];exact(hvd.ent n2 (Ar hn2) e' (Fg he').1).2.1.symm
 have hO1:e2=0→O.1=A.1:=fun h=>by rw[(hoo h).1,hA1];exact hsq.symm
 obtain⟨NS,hNS⟩:∃NS,NS=(if e2=0 then Br X2 O.2 else X2):=⟨_,rfl⟩
 have hNSf:NS=X2∨(e2=0∧NS=Br X2 O.2):=by
  by_cases h:e2=0
  ·exact .inr ⟨h,by rw[hNS,if_pos h]⟩
  exact .inl (by rw[hNS,if_neg h])
 have hsub:NS.Sublist X2:=by
  rcases hNSf with h|⟨_,h⟩
  ·rw[h];exact List.Sublist.refl _
  rw[h];exact List.filter_sublist
 have hasc3:DM NS:=hasc2.sublist hsub
 have hAN:am∈NS:=by
  rcases hNSf with h|⟨h0,h⟩
  ·rw[h];exact ham
  rw[h];refine List.mem_filter.2 ⟨ham,decide_eq_true (.inl fun e=>hoa h0 ?_)⟩;exact Prod.ext (hO1 h0) (by rw[←e,hami])
 obtain⟨i3,hm3⟩:=List.getElem?_of_mem hAN;have hil3:=(Ah.1 hm3).1;have hf3:FlsB (f.set q ⟨d.next,NS⟩):=hf.set_ (by have:=hsub.length_le;have:=hvd.len;show NS.length≤1000;omega) fun m hm=>hb2 m (hsub.subset hm);have hidx3:ED (f.set q ⟨d.next,NS⟩) A=(i3:Int):=PQ (by rw[hA1];exact hsq) (d:=⟨d.next,NS⟩) (by simp[hql]) hasc3 hm3 hami;obtain⟨m3,rfl⟩:∃m3,m3=am:=⟨_,rfl⟩;have hm3i:=hami;obtain⟨NS2,hNS2⟩:∃NS2,NS2=Hb NS A.2 to.2 (Am f A):=⟨_,rfl⟩;refine w_ (l_ (h:=?_));refine A6 rfl (EB [] rfl (.cons _ _ _ _ _ rfl (AX _) .nil) (by decide) .nil (Jh f q d hf hq (by omega)) ?_);rintro r bc tc ⟨rfl,cap,cap1,hcap,hcap1,rfl,rfl⟩;refine⟨rfl,_,(Jl (n:=6) rfl f q d d.nodes cap cap1:Back _ [] _ [_,_,_,_,_,_,_,_]),?_⟩;have hcx1:X1.length≤cap1:=by omega
 have hcx2:X2.length≤cap1:=by omega
 refine Ac (h:=s_ (h:=e_ (w_ (l_ (h:=l_ (h:=m_ (h:=?_)))))));refine A6 rfl (EB [6,7] rfl (.cons _ _ _ _ _ rfl (AX _) (.cons _ _ _ _ _ rfl (AX _) (.cons _ _ _ _ _ rfl (AX _) (.cons _ _ _ _ _ rfl (AX _) .nil)))) (by decide) (.cons _ _ _ _ _ rfl (F1 (by rfl) _ _ _ _ _) (.cons _ _ _ _ _ rfl (Eh _ _ _) .nil)) (L5 f q d n1 i src name 0 cap cap1 hf hq hsq hidx hn1 hcap hcap1) ?_);rintro r bc tc ⟨rfl,rfl,rfl⟩;rw[show d.nodes.set i {n1 with entries:=CL n1.entries name 0}=X1 from hX1.symm];refine⟨rfl,_,(Jm (B8 rfl) (B8 rfl) (by decide) f q d X1 cap cap1 cap1:Back _ [6,7] _ [_,_,_,_,_,_,_,_,_]),?_⟩;refine e_ (w_ (l_ (h:=l_ (h:=m_ (h:=f_ (h:=l_ (h:=?_)))))));refine A6 rfl (EB [6,7] rfl (.cons _ _ _ _ _ rfl (AX _) (.cons _ _ _ _ _ rfl (AX _) (.cons _ _ _ _ _ rfl (AX _) (.cons _ _ _ _ _ rfl (AX _) .nil)))) (by decide) (.cons _ _ _ _ _ rfl (F1 (by rfl) _ _ _ _ _) (.cons _ _ _ _ _ rfl (Eh _ _ _) .nil)) (Y7 f q d ⟨d.next,X1⟩ m2 i2 to name2 A.2 cap cap1 hf1 hql htq hidx2 hm2 hcap hcx1 rfl hx1l) ?_);rintro r bc tc ⟨rfl,rfl,rfl⟩;refine⟨rfl,?_⟩;dsimp only;rw[←hX2];refine⟨_,(Jm (B8 rfl) (B8 rfl) (by decide) f q ⟨d.next,X2⟩ X2 cap cap1 cap1:Back _ [6,7] _ [_,_,_,_,_,_,_,_,_]),?_⟩;refine e_ (?_);refine CA (fun t=>∃capx,NS.length≤capx∧t=⟨look [(2, .v (.string name)),(4, .v (.string name2)),(6, .bp 1 0),(8, .bp 2 0),(10, .bp 3 0),(17, .bp 4 0),(19, .v (.bool (Am f A))),(20, .bp 5 0),(22, .bp 8 0)],⟨[Aq f,AD src,AD to,[.v (.slice none 0 0)],AD A,AD O,DB f q ⟨d.next,NS⟩ 7 cap capx,NB NS capx,[.bs 6 0 2 f.length cap]],[]⟩⟩) ?_ ?_
 ·skip
  refine w_ (m_ (h:=AN (h:=e_ (?_))));refine A9 rfl (fun hb17=>?_) (fun hb17=>?_)
  ·have hc17:=bp hb17;have he2:e2=0:=hc17;obtain⟨hoq,hkp⟩:=hoo he2;refine AW (l_ (h:=l_ (h:=?_)));refine A6 rfl (EB [6,7] rfl (.cons _ _ _ _ _ rfl (AX _) (.cons _ _ _ _ _ rfl (AX _) .nil)) (by decide) (.cons _ _ _ _ _ rfl (F1 (by rfl) _ _ _ _ _) (.cons _ _ _ _ _ rfl (Eh _ _ _) .nil)) (PP f q ⟨d.next,X2⟩ ⟨d.next,X2⟩ O cap cap1 hf2 hql hoq hcap hcx2 hkp rfl rfl) ?_);rintro r bc tc ⟨rfl,rfl,⟨hns,rfl⟩|⟨hns,cap2,hcap2,rfl⟩⟩
   ·refine⟨rfl,_,(PM (n:=9) rfl (by decide) (by decide) (by decide) f q ⟨d.next,X2⟩ X2 O f.length cap cap cap1 cap1:Back _ [6,7] _ [_,_,_,_,_,_,_,_,_,_,_]),?_⟩;obtain rfl:NS=X2:=by rw[hNS,if_pos (by assumption)];exact hns
    refine AQ (?_);refine AK ?_
    first|exact⟨_,⟨_,hcap2,rfl⟩,Gr [0,1,2,3,4,5,6,11,8] (fun i hi=>absurd hi (Nat.not_lt_zero i)) (by decide) (.cons _ _ _ _ _ rfl rfl (.cons _ _ _ _ _ rfl rfl (.cons _ _ _ _ _ rfl rfl (.cons _ _ _ _ _ rfl rfl (.cons _ _ _ _ _ rfl rfl (.cons _ _ _ _ _ rfl rfl (.cons _ _ _ _ _ rfl (HG (by rfl) _ _ _ _ _) (.cons _ _ _ _ _ rfl (Ff _ _ _) (.cons _ _ _ _ _ rfl rfl .nil))))))))) (by repeat (first|exact SubK.nil|refine SubK.cons _ _ _ _ rfl (AX _) ?_))⟩|exact⟨_,⟨_,hcx2,rfl⟩,C0 9 0 (by simp[BH,BD,B6,Bf,Bg,AD,Aq])⟩
   refine⟨rfl,_,(PL (n:=9) rfl (by decide) (by decide) (by decide) f q ⟨d.next,CU O.2 X2⟩ X2 (CU O.2 X2) O f.length cap cap cap1 cap2:Back _ [6,7] _ [_,_,_,_,_,_,_,_,_,_,_,_]),?_⟩;have hNSk:NS=CU O.2 X2:=by rw[hNS,if_pos (by assumption)];exact hns
   rw[←hNSk]at hcap2;rw[←hNSk];refine AQ (?_);refine AK ?_
   first|exact⟨_,⟨_,hcap2,rfl⟩,Gr [0,1,2,3,4,5,6,11,8] (fun i hi=>absurd hi (Nat.not_lt_zero i)) (by decide) (.cons _ _ _ _ _ rfl rfl (.cons _ _ _ _ _ rfl rfl (.cons _ _ _ _ _ rfl rfl (.cons _ _ _ _ _ rfl rfl (.cons _ _ _ _ _ rfl rfl (.cons _ _ _ _ _ rfl rfl (.cons _ _ _ _ _ rfl (HG (by rfl) _ _ _ _ _) (.cons _ _ _ _ _ rfl (Ff _ _ _) (.cons _ _ _ _ _ rfl rfl .nil))))))))) (by repeat (first|exact SubK.nil|refine SubK.cons _ _ _ _ rfl (AX _) ?_))⟩|exact⟨_,⟨_,hcx2,rfl⟩,C0 9 0 (by simp[BH,BD,B6,Bf,Bg,AD,Aq])⟩
  have hc17:=bp hb17;have he2:¬e2=0:=hc17;obtain rfl:NS=X2:=by rw[hNS,if_neg he2]
  refine Aw (?_);refine AK ?_
  first|exact⟨_,⟨_,hcap2,rfl⟩,Gr [0,1,2,3,4,5,6,11,8] (fun i hi=>absurd hi (Nat.not_lt_zero i)) (by decide) (.cons _ _ _ _ _ rfl rfl (.cons _ _ _ _ _ rfl rfl (.cons _ _ _ _ _ rfl rfl (.cons _ _ _ _ _ rfl rfl (.cons _ _ _ _ _ rfl rfl (.cons _ _ _ _ _ rfl rfl (.cons _ _ _ _ _ rfl (HG (by rfl) _ _ _ _ _) (.cons _ _ _ _ _ rfl (Ff _ _ _) (.cons _ _ _ _ _ rfl rfl .nil))))))))) (by repeat (first|exact SubK.nil|refine SubK.cons _ _ _ _ rfl (AX _) ?_))⟩|exact⟨_,⟨_,hcx2,rfl⟩,C0 9 0 (by simp[BH,BD,B6,Bf,Bg,AD,Aq])⟩
 rintro t ⟨capx,hcapx,rfl⟩;refine CA (fun t=>t=⟨look [(2, .v (.string name)),(4, .v (.string name2)),(6, .bp 1 0),(8, .bp 2 0),(10, .bp 3 0),(17, .bp 4 0),(20, .bp 5 0),(22, .bp 8 0)],⟨[Aq f,AD src,AD to,[.v (.slice none 0 0)],AD A,AD O,DB f q ⟨d.next,NS⟩ 7 cap capx,NB NS2 capx,[.bs 6 0 2 f.length cap]],[]⟩⟩) ?_ ?_
 ·skip
  refine w_ (m_ (h:=e_ (?_)));refine A9 rfl (fun hb18=>?_) (fun hb18=>?_)
  ·have hc18:=bp hb18;have e4:NS.set i3 {m3 with parent:=to.2}=NS2:=by rw[hNS2,Hb,if_pos hc18,LJ hasc3 hm3 (fun n=>{n with parent:=to.2}),hm3i]
   have hset3:SetAt (NB NS capx) (0+i3 * 8+5) [.v (.int .i64 to.2)] (NB NS2 capx):=by
    rw[←e4];exact Ou hm3 (by repeat constructor) (by simp)
   refine CE ([(0,Aq f),(1,AD src),(2,AD to),(3,[.v (.slice none 0 0)]),(4,AD A),(5,AD O),(6,DB f q ⟨d.next,NS⟩ 7 cap capx),(8,[.bs 6 0 2 f.length cap])]) 15 (h:=Ay 0 (h:=?_))
   first|refine AY 1 (h:=?_)|refine BK 1 rfl (fun _ hS=>BY (row:=DB f q ⟨d.next,NS⟩ 7 cap capx) rfl (kb hS rfl) (G8 hql) ⟨rfl,rfl⟩) ?_
   refine Ay 2 (h:=?_)
   first|refine AY 3 (h:=?_)|refine BK 3 rfl (fun _ hS=>BY (row:=DB f q ⟨d.next,NS⟩ 7 cap capx) rfl (kb hS rfl) (G8 hql) ⟨rfl,rfl⟩) ?_
   refine BK 4 rfl (fun _ hS=>DJ (m:=q) rfl rfl htq hql ⟨rfl,rfl⟩) ?_;refine Ay 5 (h:=?_)
   first|refine AY 6 (h:=?_)|refine BK 6 rfl (fun _ hS=>BY (row:=DB f q ⟨d.next,NS⟩ 7 cap capx) rfl (kb hS rfl) (G8 hql) ⟨rfl,rfl⟩) ?_
   first|refine AY 7 (h:=?_)|refine BK 7 rfl (fun _ hS=>BY (row:=DB f q ⟨d.next,NS⟩ 7 cap capx) rfl (kb hS rfl) (G8 hql) ⟨rfl,rfl⟩) ?_
   first|refine AY 8 (h:=?_)|refine BK 8 rfl (fun _ hS=>BY (row:=DB f q ⟨d.next,NS⟩ 7 cap capx) rfl (kb hS rfl) (G8 hql) ⟨rfl,rfl⟩) ?_
   refine Ay 10 (h:=?_)
   first|refine AY 11 (h:=?_)|refine BK 11 rfl (fun _ hS=>BY (row:=DB f q ⟨d.next,NS⟩ 7 cap capx) rfl (kb hS rfl) (G8 hql) ⟨rfl,rfl⟩) ?_
   refine c_ 9 rfl (Fc 2 rfl (.cons _ _ _ _ _ rfl (LeA.of_eq (Y0 (d:=⟨d.next,NS⟩) hql hcap hcapx (BU _) (BU _) rfl rfl)) (.cons _ _ _ _ _ rfl (AX _) .nil)) (Gy (f.set q ⟨d.next,NS⟩) A hf3) ?_);rintro r rfl;refine⟨rfl,?_⟩;refine o_ (h:=?_);refine BK 12 rfl (fun _ hS=>DJ (m:=i3) rfl rfl hidx3 hil3 ⟨rfl,rfl⟩) ?_;refine Ay 13 (h:=?_);refine Bm 14 rfl (Bd rfl rfl rfl rfl rfl rfl hset3 (by repeat constructor) ?_);refine o_ (h:=z_ (h:=?_));refine AK ?_;exact⟨_,rfl,C0 9 0 (by simp[BH,BD,B6,Bf,Bg,AD,Aq])⟩
  have hc18:=bp hb18;obtain rfl:NS2=NS:=by rw[hNS2,Hb,if_neg (by rw[hc18];decide)]
  refine Aw (?_);refine AK ?_;exact⟨_,rfl,C0 9 0 (by simp[BH,BD,B6,Bf,Bg,AD,Aq])⟩
 rintro t rfl;have hl3:NS2.length=NS.length:=by rw[hNS2];unfold Hb;split<;>simp[CN]
 have hcapx2:NS2.length≤capx:=by omega
 refine CA (fun t=>t=⟨look [(10, .bp 3 0),(11, .sl 7 ([(src,name,A,(0,0)),(to,name2,O,A)].map E3) none),(12, .v (.int .i64 0))],⟨[Aq f,AD src,AD to,Aq (f.set q ⟨d.next,NS2⟩)],[]⟩⟩) ?_ ?_
 ·skip
  refine CE ([(0,Aq f),(1,AD src),(2,AD to),(4,AD A),(5,AD O),(6,DB f q ⟨d.next,NS⟩ 7 cap capx),(7,NB NS2 capx),(8,[.bs 6 0 2 f.length cap])]) 15 (h:=AY 0 (h:=AY 1 (h:=Ap 2 (h:=AY 3 (h:=?_)))));refine BK 4 rfl (fun _ hS=>Fz (y:= .agg (AD (0,0))) (E0 ⟨rfl,rfl⟩) (by repeat (first|exact AX _|exact LeA.nil _|exact LeL.refl _|refine LeA.agg ⟨rfl,rfl⟩|refine LeA.tup ⟨rfl,rfl⟩|exact LeL.nil|refine LeL.cons ⟨rfl,rfl⟩ ⟨rfl,rfl⟩|exact LeA.any _)) ⟨rfl,rfl⟩) ?_;refine AY 6 (h:=Ap 7 (h:=AY 8 (h:=AY 9 (h:=?_))));refine c_ 5 rfl (EB [] rfl (.cons _ _ _ _ _ rfl (AX _) (.cons _ _ _ _ _ rfl (AX _) (.cons _ _ _ _ _ rfl (AX _) (.cons _ _ _ _ _ rfl (AX _) .nil)))) (by decide) .nil (Y5 src name A (0,0)) ?_);rintro r bc tc ⟨rfl,rfl,rfl⟩;refine⟨rfl,_,(Y4 _ (Y6 _ _ _ _):Back _ [] _ [_,_,_,_,_,_,_,_,_,_,_,_,_]),?_⟩;refine o_ (h:=?_);refine c_ 10 rfl (AJ (J8 to name2 O A) ?_);rintro r rfl;refine o_ (h:=?_);refine c_ 11 rfl (OC rfl rfl rfl (B8 rfl) Mr (by omega) (by omega) (fun h=>absurd h (by omega)) ?_);rintro hg cap4 k bx2 hcp4 hs;obtain⟨rfl,rfl⟩:k=13∧bx2=[_,_,_,_,_,_,_,_,_,_,_,_,_,C7 7 cap4 ([(src,name,A,(0,0)),(to,name2,O,A)].map E3)]:=hs.eq;refine o_ (h:=?_);refine Bm 12 rfl (Bd rfl rfl rfl rfl rfl rfl (by repeat constructor) (by repeat constructor) ?_);refine o_ (h:=BN 13 (h:=BN 14 (h:=z_ (h:=?_))));refine AK ?_;exact⟨_,rfl,Ew 4 2 rfl (congrArg (fun x=>[Aq f,AD src,AD to,x]) (FT (k:=0) (i:=6) (j:=7) (d:=⟨d.next,NS⟩) (d':=⟨d.next,NS2⟩) hql rfl hl3 hcap hcapx2 (B8 rfl) (B8 rfl) rfl rfl)) (.cons _ _ _ _ rfl (AX _) (.cons _ _ _ _ rfl (LeA.of_eq (Sw (rows:=[(src,name,A,(0,0)),(to,name2,O,A)].map E3) (B8 rfl) (Y1 (n:=4) (k:=1) (j:=13) (B8 rfl) rfl (Y2 _)) (Y3 _) rfl hcp4)) (.cons _ _ _ _ rfl (AX _) .nil)))⟩
 rintro t rfl;refine A4 (?_);refine A8 ?_;rw[hRen,if_neg (by rw[hord];simp),if_neg (by simp[he1]),if_neg (by simp[hc5]),if_neg (fun h=>absurd h.2 (by rw[hbl h.1];decide)),if_neg (fun h=>hoa h.1 h.2),if_neg (by rw[h2];simp),htq,Int.toNat_natCast,FU hq,show Jo d.nodes src name to name2 A O e2=NS by rw[hNS,hX2D,hn1i,hn2i];rfl,←hNS2];rfl
end
end Go.Proofs.YtbgnigjfkbmceaaGreatDoor
namespace Go.Proofs.YtbgnigjfkbmceaaGreatDoor
theorem FlsV.set_{f:AZ}(h:FlsV f){q:Nat}{d':Dvc}(hd:VD d'):FlsV (f.set q d'):=by
 refine⟨by simpa using h.few,fun d hm=>?_⟩;rcases List.mem_or_eq_of_mem_set hm with h1|h1
 ·exact h.vd d h1
 rw[h1];exact hd
theorem LN{f:AZ}{a:AA}(h:Cg f a=true):∃(q i:Nat) (d:Dvc) (m:Nod),a.1=(q:Int)∧f[q]?=some d∧d.nodes[i]?=some m∧m.ino=a.2∧Bk f a=some m∧As f a=m:=by
 rcases GP f a with⟨_,h2⟩|⟨q,i,d,n,h1,h2,h3,h4,h5,h6⟩
 ·simp[Cg,h2]at h
 exact⟨q,i,d,n,h1,h2,h3,h4,h6,by simp[As,h6]⟩
theorem PT{f:AZ}{a:AA}{q:Nat}{d:Dvc}{m:Nod}(ha:a.1=(q:Int))(hq:f[q]?=some d)(hd:DM d.nodes)(hm:m∈d.nodes)(hi:m.ino=a.2):Bk f a=some m:=by
 unfold Bk;rw[ha,J3,hq];simp only
 cases h:d.nodes.find? (fun n=>n.ino==a.2)with
 |none=>
   have:=List.find?_eq_none.1 h m hm;simp[hi]at this
 |some n=>
   have h1:=List.mem_of_find?_eq_some h;have h2:=List.find?_some h;simp only[beq_iff_eq]at h2;rw[Ct hd h1 hm (by omega)]
theorem My{f:AZ}{dir:AA}{name:AG}{n0:Nod}(hn:Bk f dir=some n0)(hk:n0.kind=2)(h:(AO f dir name).2≠0):Cs n0.entries name=none∧(AO f dir name).1=(0,0):=by
 unfold AO at h ⊢;rw[hn]at h ⊢;simp only[hk,if_true]at h ⊢;unfold Cs;split at h
 ·rename_i he;exact⟨he,rfl⟩
 exact absurd rfl h
theorem PU{f:AZ}{dir:AA}{n0:Nod}(hn:Bk f dir=some n0)(h:¬GR f dir=true):n0.entries.length<12:=by
 unfold GR at h;rw[hn]at h;simp at h;omega
theorem LO(f:AZ)(q:Nat)(g:List Nod→List Nod):(GB f q g).length=f.length:=by simp[GB]
def Jp(f:AZ)(R:J5):Prop:=R.2.2=0→FlsV R.1∧R.1.length=f.length
theorem DS{f:AZ}{e:Int}(h:e≠0):Jp f ([],[],e):=fun h0=>absurd h0 h
theorem Jq{f:AZ}(hv:FlsV f)(dir:AA)(name:AG)(a:AA):Jp f (EG f dir name a):=by
 unfold EG;split
 ·rename_i h;exact DS h
 rename_i hp;split
 ·exact DS (by decide)
 rename_i hh;split
 ·exact DS (by decide)
 rename_i hdev;split
 ·exact DS (by decide)
 rename_i hk;split
 ·exact DS (by decide)
 rename_i hl;split
 ·exact DS (by decide)
 rename_i hfl;intro _;obtain⟨q,i,d,n0,hdq,hq,hn0,hino,hidx,hnode,hk0,hnm⟩:=FV (name:=name) (dir:=dir) (f:=f) (by omega);obtain⟨q',i',d',m,haq,hq',hm,hmi,hnm2,hng⟩:=LN (f:=f) (a:=a) (by simpa using hh);obtain rfl:q=q':=by omega
 obtain rfl:d=d':=Option.some.inj (hq.symm.trans hq');have hvd:=hv.vd d (Ar hq);have key:=hvd.linked (Ar hn0) hk0 (Ar hm) (by rw[←hng];exact hk) hnm (My hnode hk0 hl).1 (PU hnode hfl);rw[hino,hmi]at key;refine⟨?_,by dsimp only;exact LO _ _ _⟩;dsimp only;rw[hdq,Int.toNat_natCast,FU hq];exact hv.set_ key
theorem JH{f:AZ}{a:AA}{m:Nod}(h:Bk f a=some m):Am f a=true↔m.kind=2:=by
 unfold Am;rw[h];simp
theorem T0{f:AZ}{a:AA}{m:Nod}(h:Bk f a=some m):Gx f a=true↔m.entries=[]:=by
 unfold Gx;rw[h];simp
theorem Mz{f:AZ}(hv:FlsV f){dir:AA}{name:AG}{q i:Nat}{d:Dvc}{n0:Nod}(hdq:dir.1=(q:Int))(hq:f[q]?=some d)(hn0:d.nodes[i]?=some n0)(hnode:Bk f dir=some n0)(hk0:n0.kind=2)(hl:(AO f dir name).2=0):
    ∃e m,Cs n0.entries name=some e∧AO f dir name=((dir.1,e.2),0)∧m∈d.nodes∧e.2=m.ino∧e.2≠1∧Bk f (AO f dir name).1=some m:=by
 obtain⟨e,he,hle⟩:=LK hnode hk0 hl;have hvd:=hv.vd d (Ar hq);obtain⟨_,h1,m,hm,h2⟩:=hvd.ent n0 (Ar hn0) e (Fg he).1;refine⟨e,m,he,hle,hm,h2.symm,h1,?_⟩;rw[hle];exact PT hdq hq hvd.asc hm h2
theorem Jr{f:AZ}(hv:FlsV f)(dir:AA)(name:AG):Jp f (Fi f dir name):=by
 unfold Fi;split
 ·rename_i h;exact DS h
 rename_i hp;split
 ·rename_i h;exact DS h
 rename_i hl;split
 ·exact DS (by decide)
 rename_i hk;intro _;obtain⟨q,i,d,n0,hdq,hq,hn0,hino,hidx,hnode,hk0,hnm⟩:=FV (name:=name) (dir:=dir) (f:=f) (by omega);obtain⟨e,m,he,hle,hm,h1,h2,h3⟩:=Mz hv hdq hq hn0 hnode hk0 (name:=name) (by omega);have hvd:=hv.vd d (Ar hq);have key:=hvd.removed (Ar hn0) hm (hvd.leaf m hm fun h=>hk ((JH h3).2 h)).2 he h1;refine⟨?_,by dsimp only;exact LO _ _ _⟩;dsimp only;rw[hdq,Int.toNat_natCast,FU hq,show(AO f dir name).1.2=m.ino by rw[hle];exact h1,←hino];exact hv.set_ key
theorem Js{f:AZ}(hv:FlsV f)(dir:AA)(name:AG):Jp f (F5 f dir name):=by
 unfold F5;split
 ·rename_i h;exact DS h
 rename_i hp;split
 ·rename_i h;exact DS h
 rename_i hl;split
 ·exact DS (by decide)
 rename_i hk;split
 ·exact DS (by decide)
 rename_i hem;intro _;obtain⟨q,i,d,n0,hdq,hq,hn0,hino,hidx,hnode,hk0,hnm⟩:=FV (name:=name) (dir:=dir) (f:=f) (by omega);obtain⟨e,m,he,hle,hm,h1,h2,h3⟩:=Mz hv hdq hq hn0 hnode hk0 (name:=name) (by omega);have hvd:=hv.vd d (Ar hq);have key:=hvd.removed (Ar hn0) hm ((T0 h3).1 (by simpa using hem)) he h1;refine⟨?_,by dsimp only;exact LO _ _ _⟩;dsimp only;rw[hdq,Int.toNat_natCast,FU hq,show(AO f dir name).1.2=m.ino by rw[hle];exact h1,←hino];exact hv.set_ key
theorem Jt{f:AZ}(hv:FlsV f)(a:AA)(mode uid gid:Int):(GC f a mode uid gid).2=0→FlsV (GC f a mode uid gid).1∧(GC f a mode uid gid).1.length=f.length:=by
 unfold GC;split
 ·intro h;exact absurd h (by decide)
 rename_i hh;split
 ·intro h;exact absurd h (by decide)
 rename_i hp;intro _;obtain⟨q,i,d,m,haq,hq,hm,hmi,hnm2,hng⟩:=LN (f:=f) (a:=a) (by simpa using hh);have hvd:=hv.vd d (Ar hq);have key:=hvd.attrs (Ar hm) mode uid gid (by rw[←hng];simpa using hp);refine⟨?_,by dsimp only;exact LO _ _ _⟩;dsimp only;rw[haq,Int.toNat_natCast,FU hq,←hmi];exact hv.set_ key
theorem Ju{f:AZ}(hv:FlsV f)(dir:AA)(name:AG)(n:Nod):Jp f (EU f dir name n):=by
 unfold EU;split
 ·rename_i h;exact DS h
 rename_i hp;split
 ·exact DS (by decide)
 rename_i hpl;split
 ·exact DS (by decide)
 rename_i hl;obtain⟨q,i,d,n0,hdq,hq,hn0,hino,hidx,hnode,hk0,hnm⟩:=FV (name:=name) (dir:=dir) (f:=f) (by omega);have hat:Ey f dir.1=some d:=by rw[hdq,J3,hq]
 rw[hat];simp only;split
 ·exact DS (by decide)
 rename_i hc;intro _;have hvd:=hv.vd d (Ar hq);have hnm2:=hvd.nextM;have key:=hvd.make (Ar hn0) hk0 hnm (My hnode hk0 hl).1 (n:=n) (by simpa using hpl) (by omega) (by omega) (PU hnode (fun h=>hc (.inr (.inr h))));refine⟨?_,by simp⟩;dsimp only;rw[hdq,Int.toNat_natCast,←hino];exact hv.set_ key
theorem YA{ns:List Nod}{a o:Int}{g:Nod→Nod}(hi:∀n,(g n).ino=n.ino)(he:∀n,(g n).entries=n.entries):Br (CN ns a g) o=CN (Br ns o) a g:=by
 have hc:BX o (CN ns a g)=BX o ns:=by
  unfold BX
  congr 1
  unfold CN;rw[List.flatMap_map]
  congr 1
  funext n
  split
  ·rw[he]
  rfl
 unfold Br;rw[hc];unfold CN;rw[List.filter_map]
 congr 1
 apply List.filter_congr;intro n _;simp only[Function.comp];split
 ·rw[hi]
 rfl
theorem YB{ns:List Nod}{a:Int}{g:Nod→Nod}(h:∀n∈ns,n.ino=a→g n=n):CN ns a g=ns:=by
 unfold CN
 conv=>rhs;rw[←List.map_id ns]
 apply List.map_congr_left;intro n hn;split
 ·rename_i e;rw[h n hn e];rfl
 rfl
theorem YC{ns:List Nod}{a:Int}{g g':Nod→Nod}(h:∀n∈ns,n.ino=a→g n=g' n):CN ns a g=CN ns a g':=by
 unfold CN;apply List.map_congr_left;intro n hn;split
 ·rename_i e;rw[h n hn e]
 rfl
theorem T1{f:AZ}{q:Nat}{d:Dvc}(hq:f[q]?=some d)(hd:DM d.nodes){top:AA}(ht:top.1=(q:Int)):∀(k n:Nat) (a:AA),k<n→a.1=(q:Int)→LG d.nodes k a.2 top.2→G6 f top n a=true
 |_,0,_,h,_,_=>by omega
 |0,n+1,a,_,ha,hk=>by
   have e:a.2=top.2:=hk;unfold G6;rw[if_neg (by omega),if_pos (Prod.ext (by omega) e)]
 |k+1,n+1,a,h,ha,hk=>by
   obtain⟨m,hm,h1,h2,h3,h4⟩:=hk;unfold G6;rw[if_neg (by omega)];split
   ·rfl
   have hn:=PT ha hq hd hm h1;refine T1 hq hd ht k n _ (by omega) ha ?_;simp only[As,hn,Option.getD_some];exact h4
theorem Jv{f:AZ}(hv:FlsV f)(src:AA)(name:AG)(to:AA)(name2:AG):Jp f (EV f src name to name2):=by
 unfold EV;split
 ·rename_i h;exact DS h
 rename_i hord;obtain⟨hpl1,hpl2⟩:=Sv (f:=f) (x:=src) (y:=to) (name:=name) (name2:=name2) (by omega);split
 ·rename_i h;exact DS h
 rename_i hl1;split
 ·exact DS (by decide)
 rename_i hdev;split
 ·exact DS (by decide)
 rename_i hbel;split
 ·intro _;exact⟨hv,rfl⟩
 rename_i hsame;split
 ·rename_i h;exact DS h
 rename_i hr2;intro _;obtain⟨q,i,d,n1,hsq,hq,hn1,hn1i,hidx,hnode,hk1,hnm1⟩:=FV hpl1;obtain⟨q',i2,d',n2,htq,hq',hn2,hn2i, -,hnode2,hk2,hnm2⟩:=FV hpl2;obtain rfl:q=q':=by omega
 obtain rfl:d=d':=Option.some.inj (hq.symm.trans hq');have hvd:=hv.vd d (Ar hq);obtain⟨e,m,he,hle,hm,hem,he1,hmn⟩:=Mz hv hsq hq hn1 hnode hk1 (name:=name) (by omega);have hA2:(AO f src name).1.2=m.ino:=by rw[hle];exact hem
 have hmoves:Am f (AO f src name).1=true↔m.kind=2:=JH hmn
 have hanc:m.kind=2→¬F3 d.nodes n2.ino m.ino:=by
  rintro hmk ⟨k,hk⟩;have hlen:=hvd.anc_len hm hk;have:=hvd.len;refine hbel ⟨hmoves.2 hmk,T1 hq hvd.asc (top:=(AO f src name).1) (by rw[hle];exact hsq) k 17 to (by omega) htq ?_⟩;rw[hA2,←hn2i];exact hk
 have hdiff:n1.ino=n2.ino→name≠name2:=by
  rintro h rfl;have est:to=src:=Prod.ext (by omega) (by omega);subst est;exact hsame ⟨by omega,rfl⟩
 have ho:(Cs n2.entries name2=none∧(n2.entries.length<12∨n1.ino=n2.ino)∧(AO f to name2).1.2=0)∨(∃eo o,Cs n2.entries name2=some eo∧o∈d.nodes∧eo.2=(AO f to name2).1.2∧o.ino=(AO f to name2).1.2∧(AO f to name2).1.2≠m.ino∧o.entries=[]):=by
  have hr3:DO f src to (AO f src name).1 (AO f to name2).1 (AO f to name2).2=0:=by omega
  unfold DO at hr3;by_cases h0:(AO f to name2).2=0
  ·right;rw[if_pos h0]at hr3;obtain⟨eo,o,heo,hleo,hom,heoi,heo1,hon⟩:=Mz hv htq hq hn2 hnode2 hk2 (name:=name2) h0;have hO2:(AO f to name2).1.2=eo.2:=by rw[hleo]
   refine⟨eo,o,heo,hom,hO2.symm,by rw[hO2,heoi],?_,?_⟩
   ·intro h;refine hsame ⟨h0,Prod.ext ?_ (h.trans hA2.symm)⟩;rw[hleo,hle];exact htq.trans hsq.symm
   have hdo:=JH hon;by_cases hok:o.kind=2
   ·rw[if_neg (fun h=>by
       rw[if_pos h]at hr3;exact absurd hr3 (by decide))]at hr3
    rw[if_neg (fun h=>by rw[hdo.2 hok]at h;exact absurd h.1 (by decide))]at hr3;split at hr3
    ·exact absurd hr3 (by decide)
    rename_i h5;refine(T0 hon).1 ?_
    cases hem2:Gx f (AO f to name2).1 with
    |true=>rfl
    |false=>exact absurd ⟨hdo.2 hok,hem2⟩ h5
   exact(hvd.leaf o hom hok).2
  left;rw[if_neg h0]at hr3;obtain⟨h1,h2⟩:=My hnode2 hk2 h0;refine⟨h1,?_,by rw[h2]⟩;split at hr3
  ·exact absurd hr3 (by decide)
  rename_i h3;by_cases hfl:GR f to=true
  ·right;have:src=to:=Classical.byContradiction fun h=>h3 ⟨hfl,h⟩;rw[hn1i,hn2i,this]
  left;exact PU hnode2 hfl
 have key:=hvd.renamed (Ar hn1) (Ar hn2) hm hk2 he hem hnm2 hdiff hanc ho;refine⟨?_,by dsimp only;exact LO _ _ _⟩;dsimp only;rw[htq,Int.toNat_natCast,FU hq]
 have hns:Hb (Jo d.nodes src name to name2 (AO f src name).1 (AO f to name2).1 (AO f to name2).2) (AO f src name).1.2 to.2 (Am f (AO f src name).1)=Br (DD d.nodes n1.ino n2.ino name name2 m.ino) (AO f to name2).1.2:=by
  rw[←Si,hA2,←hn2i]
  have hY:∀y∈BV (BV d.nodes n1.ino name 0) n2.ino name2 m.ino,y.ino=m.ino→y.kind=m.kind:=by
   intro y hy hyi;obtain⟨y1,h1,w1⟩:=Ds hy;obtain⟨y2,h2,w2⟩:=Ds h1;have:y2=m:=Ct hvd.asc h2 hm (by rw[←w2.ino,←w1.ino];exact hyi);rw[w1.kind,w2.kind,this]
  have hpos:∀y∈BV (BV d.nodes n1.ino name 0) n2.ino name2 m.ino,1≤y.ino:=by
   intro y hy;obtain⟨y1,h1,w1⟩:=Ds hy;obtain⟨y2,h2,w2⟩:=Ds h1;rw[w1.ino,w2.ino];exact hvd.pos h2
  have hset:Br (CN (BV (BV d.nodes n1.ino name 0) n2.ino name2 m.ino) m.ino (Fh n2.ino)) (AO f to name2).1.2=CN (Br (BV (BV d.nodes n1.ino name 0) n2.ino name2 m.ino) (AO f to name2).1.2) m.ino (Fh n2.ino):=YA (fun n=>by unfold Fh;split<;>rfl) (fun n=>by unfold Fh;split<;>rfl);rw[hset]
  have hN:Jo d.nodes src name to name2 (AO f src name).1 (AO f to name2).1 (AO f to name2).2=Br (BV (BV d.nodes n1.ino name 0) n2.ino name2 m.ino) (AO f to name2).1.2:=by
   unfold Jo;rw[hA2,←hn1i,←hn2i];split
   ·rfl
   rename_i h0;rw[(My hnode2 hk2 h0).2];unfold Br
   symm
   rw[List.filter_eq_self];intro y hy;have:=hpos y hy;exact decide_eq_true (.inl (by show y.ino≠0;omega))
  rw[hN];have hsub:∀y∈Br (BV (BV d.nodes n1.ino name 0) n2.ino name2 m.ino) (AO f to name2).1.2,y∈BV (BV d.nodes n1.ino name 0) n2.ino name2 m.ino:=fun y hy=>(LF.1 hy).1;unfold Hb;split
  ·rename_i hmv;refine YC fun y hy hyi=>?_;unfold Fh;rw[if_pos ((hY y (hsub y hy) hyi).trans (hmoves.1 hmv))]
  rename_i hmv;refine(YB fun y hy hyi=>?_).symm;unfold Fh;rw[if_neg (fun h=>hmv (hmoves.2 ((hY y (hsub y hy) hyi).symm.trans h)))]
 rw[hns];exact hv.set_ key
end Go.Proofs.YtbgnigjfkbmceaaGreatDoor
namespace Go.Proofs.YtbgnigjfkbmceaaGreatDoor
open Go.RowKit
def Fj(R:Spc×Int):AV:= .tup [.agg (Aj R.1), .v (.int .i64 R.2)]
def Jw:Spc:=⟨[],[]⟩
theorem Hc(e:Int):LeA (.tup [.agg [.v (.slice none 0 0), .v (.slice none 0 0)], .v (.int .i64 e)]) (Fj (Jw,e)):=(by repeat (first|exact AX _|exact LeA.nil _|exact LeL.refl _|refine LeA.agg ?_|refine LeA.tup ?_|exact LeL.nil|refine LeL.cons ?_ ?_|exact LeA.any _))
def Cv(s:Spc)(dev:Int)(a:AA):Spc×Int:=
 if dev<1∨(s.files.length:Int)≤dev then(Jw,22)else if Cg s.files a=false then(Jw,2)else if(As s.files a).kind≠2 then(Jw,20)else if C3 s a.1=false∨a.1=dev then(Jw,22)else
 if C3 s dev=true∨(Bw s a).isSome=true then(Jw,16)else(⟨s.files,s.mounts++[(dev,a)]⟩,0)
section
theorem YD(s:Spc)(hs:SpcB s):Ht prog 126 [.agg (Aj s)] (fun g=> .agg [.sl 2 (s.files.map Bi) none, .sl 3 (s.mounts.map Co) g]) (185,3,s.mounts.map Co):=by
 have hfew:=hs.few;refine enter Tryz.func126 rfl rfl rfl rfl rfl 0 rfl ?_;refine w_ (b_ (h:=Ac (h:=e_ (q_ (CE ([(0,Aj s)]) 8 (h:=Ay 0 (h:=?_)))))))
 first|refine AY 1 (h:=?_)|refine BK 1 rfl (fun _ hS=>Dr (row:=Aj s) rfl (kb hS rfl) (B8 rfl) rfl ⟨rfl,rfl⟩) ?_
 refine Ay 3 (h:=?_)
 first|refine AY 4 (h:=?_)|refine BK 4 rfl (fun _ hS=>Dr (row:=Aj s) rfl (kb hS rfl) (B8 rfl) rfl ⟨rfl,rfl⟩) ?_
 refine c_ 2 rfl (AJ (Sr s.files hs.files) ?_);rintro r rfl;refine o_ (h:=?_)
 first|refine c_ 5 rfl (E7 rfl rfl rfl (by simp;omega) (by repeat constructor) ?_)|refine c_ 5 rfl (E8 rfl rfl (by simp;omega) (by repeat constructor) ?_)
 refine o_ (h:=GO 6 (h:=?_));refine Bm 7 rfl (Bd rfl rfl rfl rfl rfl rfl (by repeat constructor) (by repeat constructor) ?_);refine o_ (h:=z_ (h:=t_ (A4 (?_))));refine Au (some 0) (h5:=(AX _)) (h6:=⟨rfl,rfl,rfl⟩)
theorem N0(s:Spc)(dev:Int)(a:AA)(hs:SpcB s):AFn prog 76 [.agg (Aj s), .v (.int .i64 dev), .agg (AD a)] (fun r=>r=Fj (Cv s dev a)):=by
 have hfew:=hs.few;refine enter Tryz.func76 rfl rfl rfl rfl rfl 0 rfl ?_;refine w_ (b_ (h:=b_ (h:=Ac (h:=a_ (h:=e_ (q_ (w_ (m_ (h:=B1 (h:=m_ (h:=?_)))))))))));refine AR false rfl rfl (fun hb1=>?_) (fun hb1=>?_)
 ·have hc1:=bp hb1;refine A3 (h:=A3 (h:=A3 (h:=A3 (h:=A3 (h:=A3 (h:=AB (h:=e_ (B2 (h:=w_ (Ab (h:=s_ (h:=a_ (h:=e_ (A4 (A7 (?_))))))))))))))));refine Au (r:=Fj (Cv s dev a)) none (h5:=?_) (h6:=⟨rfl,rfl,rfl⟩);rw[Cv,if_pos (.inl hc1)];exact Hc _
 have hc1:=bp hb1;refine m_ (h:=f_ (h:=f_ (h:=l_ (h:=n_ (h:=DL (h:=AF (h:=e_ (?_))))))));refine A9 rfl (fun hb2=>?_) (fun hb2=>?_)
 ·have hc2:=bp hb2;refine w_ (Ab (h:=s_ (h:=a_ (h:=e_ (A4 (A7 (?_)))))));refine Au (r:=Fj (Cv s dev a)) none (h5:=?_) (h6:=⟨rfl,rfl,rfl⟩);rw[Cv,if_pos (.inr (by rw[List.length_map]at hc2;omega))];exact Hc _
 have hc2:=bp hb2;refine AE (w_ (f_ (h:=l_ (h:=l_ (h:=?_)))));refine A6 rfl (AJ (Ed s.files a hs.files) ?_);rintro r rfl;refine m_ (h:=x_ (h:=x_ (h:=Ac (h:=s_ (h:=a_ (h:=e_ (q_ (w_ (m_ (h:=BB (h:=e_ (?_))))))))))));refine A9 rfl (fun hb3=>?_) (fun hb3=>?_)
 ·have hc3:=bp hb3;refine w_ (Ab (h:=s_ (h:=a_ (h:=e_ (A4 (A7 (?_)))))));refine Au (r:=Fj (Cv s dev a)) none (h5:=?_) (h6:=⟨rfl,rfl,rfl⟩);rw[Cv,if_neg (by rw[List.length_map]at hc2;omega),if_pos hc3];exact Hc _
 have hc3:=bp hb3;refine AE (q_ (w_ (f_ (h:=l_ (h:=Ao (h:=e_ (?_)))))));refine A9 rfl (fun hb4=>?_) (fun hb4=>?_)
 ·have hc4:=bp hb4;refine w_ (Ab (h:=s_ (h:=a_ (h:=e_ (A4 (A7 (?_)))))));refine Au (r:=Fj (Cv s dev a)) none (h5:=?_) (h6:=⟨rfl,rfl,rfl⟩);rw[Cv,if_neg (by rw[List.length_map]at hc2;omega),if_neg (by simp[hc3]),if_pos hc4];exact Hc _
 have hc4:=bp hb4;refine AE (q_ (w_ (l_ (h:=f_ (h:=l_ (h:=?_))))));refine A6 rfl (AJ (OU s a.1 hs) ?_);rintro r rfl;refine BB (h:=m_ (h:=?_));refine AR false rfl rfl (fun hb5=>?_) (fun hb5=>?_)
 ·have hc5:=bp hb5;refine A3 (h:=A3 (h:=A3 (h:=A3 (h:=AB (h:=e_ (B2 (h:=w_ (Ab (h:=s_ (h:=a_ (h:=e_ (A4 (A7 (?_))))))))))))));refine Au (r:=Fj (Cv s dev a)) none (h5:=?_) (h6:=⟨rfl,rfl,rfl⟩);rw[Cv,if_neg (by rw[List.length_map]at hc2;omega),if_neg (by simp[hc3]),if_neg (by simp[hc4]),if_pos (.inl hc5)];exact Hc _
 have hc5:=bp hb5;refine f_ (h:=l_ (h:=m_ (h:=AN (h:=AF (h:=e_ (?_))))));refine A9 rfl (fun hb6=>?_) (fun hb6=>?_)
 ·have hc6:=bp hb6;refine w_ (Ab (h:=s_ (h:=a_ (h:=e_ (A4 (A7 (?_)))))));refine Au (r:=Fj (Cv s dev a)) none (h5:=?_) (h6:=⟨rfl,rfl,rfl⟩);rw[Cv,if_neg (by rw[List.length_map]at hc2;omega),if_neg (by simp[hc3]),if_neg (by simp[hc4]),if_pos (.inr hc6)];exact Hc _
 have hc6:=bp hb6;refine AE (q_ (w_ (l_ (h:=m_ (h:=?_)))));refine A6 rfl (AJ (OU s dev hs) ?_);rintro r rfl;refine m_ (h:=?_);refine AR false rfl rfl (fun hb7=>?_) (fun hb7=>?_)
 ·have hc7:=bp hb7;refine A3 (h:=A3 (h:=A3 (h:=AB (h:=e_ (B2 (h:=w_ (Ab (h:=s_ (h:=a_ (h:=e_ (A4 (A7 (?_)))))))))))));refine Au (r:=Fj (Cv s dev a)) none (h5:=?_) (h6:=⟨rfl,rfl,rfl⟩);rw[Cv,if_neg (by rw[List.length_map]at hc2;omega),if_neg (by simp[hc3]),if_neg (by simp[hc4]),if_neg (by simp[hc5,hc6]),if_pos (.inl hc7)];exact Hc _
 have hc7:=bp hb7;refine l_ (h:=l_ (h:=?_));refine Av (AJ (Vv s a hs) ?_);rintro r rfl;refine AF (h:=e_ (?_));refine A9 rfl (fun hb8=>?_) (fun hb8=>?_)
 ·have hc8:=bp hb8;refine w_ (Ab (h:=s_ (h:=a_ (h:=e_ (A4 (A7 (?_)))))));refine Au (r:=Fj (Cv s dev a)) none (h5:=?_) (h6:=⟨rfl,rfl,rfl⟩);rw[Cv,if_neg (by rw[List.length_map]at hc2;omega),if_neg (by simp[hc3]),if_neg (by simp[hc4]),if_neg (by simp[hc5,hc6]),if_pos (.inr hc8)];exact Hc _
 have hc8:=bp hb8;refine AE (w_ (l_ (h:=?_)));refine A6 rfl (MD rfl (by repeat (first|exact Args.nil|refine Args.cons _ _ _ _ _ rfl (Fb rfl) ?_|refine Args.cons _ _ _ _ _ rfl (GH _) ?_|refine Args.cons _ _ _ _ _ rfl (Fx _) ?_|refine Args.cons _ _ _ _ _ rfl (GM rfl (by repeat (first|exact AX _|exact LeA.nil _|exact LeL.refl _|refine LeA.agg ?_|refine LeA.tup ?_|exact LeL.nil|refine LeL.cons ?_ ?_|exact LeA.any _))) ?_)) (YD s hs) (fun _=>rfl) (by repeat constructor) ?_);refine Ac (h:=s_ (h:=e_ (w_ (f_ (h:=l_ (h:=m_ (h:=l_ (h:=Ab (h:=Bo (h:=?_))))))))))
 first|refine A6 rfl (E7 rfl rfl rfl (by simp;omega) (by repeat constructor) ?_)|refine A6 rfl (E8 rfl rfl (by simp;omega) (by repeat constructor) ?_)
 refine f_ (h:=s_ (h:=e_ (w_ (l_ (h:=s_ (h:=a_ (h:=e_ (A4 (?_)))))))));refine A8 ?_;rw[Cv,if_neg (by rw[List.length_map]at hc2;omega),if_neg (by simp[hc3]),if_neg (by simp[hc4]),if_neg (by simp[hc5,hc6]),if_neg (by simp[hc7,hc8])];simp only[Fj,Aj,List.map_append];rfl
end
theorem T2(z:Int){n:Int}(h:1≤n): -n<z.tmod n∧z.tmod n<n:=⟨Int.lt_tmod_of_pos z (by omega),Int.tmod_lt_of_pos z (by omega)⟩
theorem FW(a b:ByteArray):(a++b).size=a.size+b.size:=ByteArray.size_append
section
theorem YE(l:List Int):ACall prog 12 [.sl 1 (l.map FL) none] [] (fun r b t=>r= .bp 0 0∧b=[Cm l 0]∧t=[]):=by
 refine enter Tryz.func12 rfl rfl rfl rfl rfl 1 rfl ?_;refine w_ (a_ (h:=e_ (w_ (m_ (h:=Ab (h:=b_ (h:=a_ (h:=e_ (A4 (?_))))))))));refine Au none (h5:=(AX _)) (h6:=⟨rfl,rfl,rfl⟩)
theorem Gn(l:List Int)(a:Nat)(n:Int)(ha:a≤1000000000000)(hn:n≤1000000000000):Dy prog 21 l a [.v (.int .i64 n)] 1 (fun r=>∃k:Int,r= .v (.int .i64 k)∧0≤k∧(1≤n→k<n)∧(n<1→k=0)):=by
 refine enter Tryz.func21 rfl rfl rfl rfl rfl 1 rfl ?_;refine w_ (a_ (h:=e_ (q_ (w_ (m_ (h:=B1 (h:=e_ (?_))))))));refine A9 rfl (fun hb1=>?_) (fun hb1=>?_)
 ·have hc1:=bp hb1;refine w_ (a_ (h:=e_ (A4 (A7 (?_)))));refine Au none (h5:=(AX _)) (h6:=⟨_,rfl,rfl,a,by omega,rfl,0,rfl,by omega,by omega,by omega⟩)
 have hc1:=bp hb1;refine AE (w_ (m_ (h:=k_ (h:=f_ (h:=l_ (h:=BE (h:=k_ (h:=f_ (h:=s_ (h:=e_ (w_ (m_ (h:=k_ (h:=f_ (h:=l_ (h:=Ve (h:=a_ (h:=e_ (q_ (q_ (D7 10 (h:=Ap 0 (h:=Dj 1 (h:=?_))))))))))))))))))))))));refine Ay 2 (h:=AY 3 (h:=Ap 4 (h:=Dj 5 (h:=Ay 6 (h:=AY 7 (h:=J1 8 (h:=Vg 9 (h:=z_ (h:=t_ (?_))))))))));refine A9 rfl (fun hb2=>?_) (fun hb2=>?_)
 ·have hc2:=bp hb2;have hlt:a<l.length:=by simp at hc2;omega
  obtain⟨z,hz⟩:∃z,(l.map FL)[a]?=some (FL z):=⟨l[a],by simp[hlt]⟩;have tz:=T2 z (n:=n) (by omega);refine D7 12 (h:=Ap 0 (h:=Dj 1 (h:=Ay 2 (h:=AY 3 (h:=Ap 4 (h:=Dj 5 (h:=Ay 6 (h:=AY 7 (h:=OL 8 (h:=?_))))))))));refine EP (i:=9) rfl (DV (n:=a) rfl rfl (by omega) hz ⟨rfl,rfl⟩) ?_;refine AY 10 (h:=BN 11 (h:=z_ (h:=t_ (w_ (m_ (h:=m_ (h:=?_)))))));refine A6 rfl (QT rfl rfl (by omega) ?_);refine a_ (h:=e_ (q_ (w_ (m_ (h:=B1 (h:=e_ (?_)))))));refine A9 rfl (fun hb3=>?_) (fun hb3=>?_)
  ·have hc3:=bp hb3;refine AW (m_ (h:=m_ (h:=?_)));refine A6 rfl (Hn rfl rfl (by omega) ?_);refine a_ (h:=e_ (w_ (m_ (h:=a_ (h:=e_ (A4 (?_)))))));refine Au none (h5:=(AX _)) (h6:=⟨_,rfl,rfl,a+1,by omega,rfl,_,rfl,by omega,by omega,by omega⟩)
  have hc3:=bp hb3;refine AE (w_ (m_ (h:=a_ (h:=e_ (A4 (?_))))));refine Au none (h5:=(AX _)) (h6:=⟨_,rfl,rfl,a+1,by omega,rfl,_,rfl,by omega,by omega,by omega⟩)
 have hc2:=bp hb2;have tz:=T2 (IntKind.i64.wrap (((a:Int)+1) * 7)) (n:=n) (by omega);refine AE (w_ (m_ (h:=m_ (h:=?_))));refine A6 rfl (QT rfl rfl (by omega) ?_);refine a_ (h:=e_ (q_ (w_ (m_ (h:=B1 (h:=e_ (?_)))))));refine A9 rfl (fun hb4=>?_) (fun hb4=>?_)
 ·have hc4:=bp hb4;refine AW (m_ (h:=m_ (h:=?_)));refine A6 rfl (Hn rfl rfl (by omega) ?_);refine a_ (h:=e_ (w_ (m_ (h:=a_ (h:=e_ (A4 (?_)))))));refine Au none (h5:=(AX _)) (h6:=⟨_,rfl,rfl,a+1,by omega,rfl,_,rfl,by omega,by omega,by omega⟩)
 have hc4:=bp hb4;refine AE (w_ (m_ (h:=a_ (h:=e_ (A4 (?_))))));refine Au none (h5:=(AX _)) (h6:=⟨_,rfl,rfl,a+1,by omega,rfl,_,rfl,by omega,by omega,by omega⟩)
theorem Ch(l:List Int)(a:Nat)(lo hi:Int)(ha:a≤1000000000000)(h1: -1000000≤lo)(h2:lo≤hi)(h3:hi≤1000000):Dy prog 47 l a [.v (.int .i64 lo), .v (.int .i64 hi)] 1 (fun r=>∃k:Int,r= .v (.int .i64 k)∧lo≤k∧k≤hi):=by
 refine enter Tryz.func47 rfl rfl rfl rfl rfl 1 rfl ?_;refine w_ (a_ (h:=e_ (w_ (m_ (h:=m_ (h:=m_ (h:=m_ (h:=G0 (h:=BE (h:=?_))))))))));refine A6 rfl (Ax 0 (hc:=Gn l a (hi - lo+1) ha (by omega)) (hR:=?_));rintro r a1 ha1 ⟨k,rfl,k1,k2,k3⟩;refine⟨rfl,_,(by repeat constructor),?_⟩;refine BE (h:=a_ (h:=e_ (A4 (?_))));refine Au none (h5:=(AX _)) (h6:=⟨_,rfl,rfl,a1,by omega,rfl,_,rfl,by omega,by omega⟩)
theorem E4(l:List Int)(a:Nat)(rows:List (List AV))(p:Int→Bool)(ha:a≤1000000000000)(h0:Nat.blt 0 rows.length=true)(h1:Nat.ble rows.length 1000=true)(hp:MR p rows=true):Dy prog 78 l a [.sl 1 rows none] 1 (fun r=>∃z:Int,r= .v (.int .i64 z)∧p z=true):=by
 have h0':0<rows.length:=B8 h0;have h1':rows.length≤1000:=B8 h1;refine enter Tryz.func78 rfl rfl rfl rfl rfl 1 rfl ?_;refine w_ (a_ (h:=e_ (w_ (m_ (h:=m_ (h:=m_ (h:=n_ (h:=?_))))))));refine A6 rfl (Ax 0 (hc:=Gn l a rows.length ha (by omega)) (hR:=?_));rintro r a1 ha1 ⟨k,rfl,k1,k2,k3⟩;refine⟨rfl,_,(by repeat constructor),?_⟩;obtain⟨m,rfl⟩:=Int.eq_ofNat_of_zero_le k1;obtain⟨z,hz,pz⟩:=R5 hp (i:=m) (by omega);refine A6 rfl (DV (n:=m) rfl rfl rfl hz ?_);refine l_ (h:=a_ (h:=e_ (A4 (?_))));refine Au none (h5:=(AX _)) (h6:=⟨_,rfl,rfl,a1,by omega,rfl,z,rfl,pz⟩)
theorem JJ(l:List Int)(a:Nat)(rows:List (List AV))(p:ByteArray→Bool)(ha:a≤1000000000000)(h0:Nat.blt 0 rows.length=true)(h1:Nat.ble rows.length 1000=true)(hp:MS p rows=true):Dy prog 81 l a [.sl 1 rows none] 1 (fun r=>∃z:ByteArray,r= .v (.string z)∧p z=true):=by
 have h0':0<rows.length:=B8 h0;have h1':rows.length≤1000:=B8 h1;refine enter Tryz.func81 rfl rfl rfl rfl rfl 1 rfl ?_;refine w_ (a_ (h:=e_ (w_ (m_ (h:=m_ (h:=m_ (h:=n_ (h:=?_))))))));refine A6 rfl (Ax 0 (hc:=Gn l a rows.length ha (by omega)) (hR:=?_));rintro r a1 ha1 ⟨k,rfl,k1,k2,k3⟩;refine⟨rfl,_,(by repeat constructor),?_⟩;obtain⟨m,rfl⟩:=Int.eq_ofNat_of_zero_le k1;obtain⟨z,hz,pz⟩:=R6 hp (i:=m) (by omega);refine A6 rfl (DV (n:=m) rfl rfl rfl hz ?_);refine l_ (h:=a_ (h:=e_ (A4 (?_))));refine Au none (h5:=(AX _)) (h6:=⟨_,rfl,rfl,a1,by omega,rfl,z,rfl,pz⟩)
theorem N1(l:List Int)(a:Nat)(ha:a≤100000000000):Dy prog 127 l a [] 2 (fun r=>∃s:ByteArray,r= .v (.string s)∧s.size≤13):=by
 refine enter Tryz.func127 rfl rfl rfl rfl rfl 1 rfl ?_;refine w_ (a_ (h:=e_ (q_ (w_ (m_ (h:=?_))))));refine A6 rfl (Ax 0 (hc:=Gn l _ (20) (by omega) (by omega)) (hR:=?_));rintro r a1 ha1 ⟨k1,rfl,p1,q1,o1⟩;refine⟨rfl,_,(by repeat constructor),?_⟩;refine AN (h:=e_ (?_));refine A9 rfl (fun hb1=>?_) (fun hb1=>?_)
 ·have hc1:=bp hb1;refine w_ (m_ (h:=Bo (h:=?_)));refine A6 rfl (Ax 0 (hc:=JJ l _ _ (fun s=>decide (s.size≤13)) (by omega) (by rfl) (by rfl) (by rfl)) (hR:=?_));rintro r a2 ha2 ⟨k2,rfl,p2⟩;refine⟨rfl,_,(by repeat constructor),?_⟩;refine a_ (h:=e_ (A4 (A7 (?_))));refine Au none (h5:=(AX _)) (h6:=⟨_,rfl,rfl,_,?_,rfl,_,rfl,of_decide_eq_true ‹_›⟩)<;>omega
 have hc1:=bp hb1;refine AE (w_ (m_ (h:=Bo (h:=?_))));refine A6 rfl (Ax 0 (hc:=JJ l _ _ (fun s=>decide (s.size≤13)) (by omega) (by rfl) (by rfl) (by rfl)) (hR:=?_));rintro r a3 ha3 ⟨k3,rfl,p3⟩;refine⟨rfl,_,(by repeat constructor),?_⟩;refine a_ (h:=e_ (A4 (?_)));refine Au none (h5:=(AX _)) (h6:=⟨_,rfl,rfl,_,?_,rfl,_,rfl,of_decide_eq_true ‹_›⟩)<;>omega
theorem T3(l:List Int)(a:Nat)(ha:a≤50000000000):Dy prog 100 l a [] 20 (fun r=>∃s:ByteArray,r= .v (.string s)∧s.size≤58):=by
 have e1:(⟨#[47]⟩:ByteArray).size=1:=rfl;have e0:(⟨#[]⟩:ByteArray).size=0:=rfl;refine enter Tryz.func100 rfl rfl rfl rfl rfl 1 rfl ?_;refine w_ (a_ (h:=e_ (w_ (a_ (h:=e_ (?_))))));refine CA (fun s=>∃(b:Nat) (t:ByteArray),b≤a+1∧t.size≤1∧s=⟨look [(0, .bp 0 0),(3, .v (.string t))],⟨[Cm l b],[]⟩⟩) ?_ ?_
 ·skip
  refine w_ (m_ (h:=?_));refine A6 rfl (Ax 0 (hc:=Gn l _ (6) (by omega) (by omega)) (hR:=?_));rintro r a1 ha1 ⟨k1,rfl,p1,q1,o1⟩;refine⟨rfl,_,(by repeat constructor),?_⟩;refine Bb (h:=e_ (?_));refine A9 rfl (fun hb1=>?_) (fun hb1=>?_)
  ·have hc1:=bp hb1;refine AW (a_ (h:=AQ (?_)));refine AK ?_;refine⟨_,⟨_,_,?_,?_,rfl⟩,(wk 1 0)⟩<;>first|omega|exact B8 rfl
  have hc1:=bp hb1;refine Aw (?_);refine AK ?_;refine⟨_,⟨_,_,?_,?_,rfl⟩,(wk 1 0)⟩<;>first|omega|exact B8 rfl
 rintro s ⟨b,t0,hb,ht0,rfl⟩;refine w_ (m_ (h:=Bo (h:=?_)));refine A6 rfl (Ax 0 (hc:=E4 l _ _ (fun z=>decide (0≤z∧z≤4)) (by omega) (by rfl) (by rfl) (by rfl)) (hR:=?_));rintro r a2 ha2 ⟨k2,rfl,p2⟩;refine⟨rfl,_,(by repeat constructor),?_⟩;obtain⟨hz1,hz2⟩:=of_decide_eq_true p2;obtain⟨m,rfl⟩:=Int.eq_ofNat_of_zero_le hz1;refine a_ (h:=e_ (q_ (w_ (a_ (h:=e_ (Af (?_)))))));refine BW (fun n s=>∃(j b1:Nat) (t:ByteArray),j≤m∧n=m - j∧b1≤b+1+4 * j∧t.size≤1+14 * j∧s=⟨look [(0, .bp 0 0),(3, .v (.string t)),(4, .v (.int .i64 (m:Int))),(5, .v (.int .i64 (j:Int)))],⟨[Cm l b1],[]⟩⟩) (m) ((wk 1 0)) (⟨0,_,t0,by omega,rfl,by omega,by omega,rfl⟩) ?_;rintro n s ⟨j,b1,t,hj,rfl,hb1,ht,rfl⟩;refine q_ (w_ (m_ (h:=m_ (h:=B1 (h:=e_ (?_))))));refine A9 rfl (fun hb2=>?_) (fun hb2=>?_)
 ·have hc2:=bp hb2;refine AE (?_);refine CA (fun s=>∃(b3:Nat) (t1:ByteArray),b3≤b1+4∧t1.size≤1+14 * (j+1)∧s=⟨look [(0, .bp 0 0),(3, .v (.string t1)),(4, .v (.int .i64 (m:Int))),(5, .v (.int .i64 (j:Int)))],⟨[Cm l b3],[]⟩⟩) ?_ ?_
  ·skip
   refine Af (q_ (w_ (m_ (h:=Bb (h:=e_ (?_))))));refine A9 rfl (fun hb3=>?_) (fun hb3=>?_)
   ·have hc3:=bp hb3;refine AW (m_ (h:=?_));refine A6 rfl (Dv rfl rfl (by(try simp only[FW]);omega) ?_);refine a_ (h:=e_ (w_ (m_ (h:=?_))));refine A6 rfl (Ax 0 (hc:=Gn l _ (8) (by omega) (by omega)) (hR:=?_));rintro r a3 ha3 ⟨k3,rfl,p3,q3,o3⟩;refine⟨rfl,_,(by repeat constructor),?_⟩;refine AN (h:=e_ (?_));refine A9 rfl (fun hb4=>?_) (fun hb4=>?_)
    ·have hc4:=bp hb4;refine AW (m_ (h:=m_ (h:=Bo (h:=?_))));refine A6 rfl (Ax 0 (hc:=JJ l _ _ (fun s=>decide (s.size≤13)) (by omega) (by rfl) (by rfl) (by rfl)) (hR:=?_));rintro r a4 ha4 ⟨k4,rfl,p4⟩;refine⟨rfl,_,(by repeat constructor),?_⟩;have hw:=of_decide_eq_true p4;refine A6 rfl (Dv rfl rfl (by(try simp only[FW]);omega) ?_);refine a_ (h:=AQ (Al (?_)));refine AK ?_;refine⟨_,⟨_,_,?_,?_,rfl⟩,(wk 1 0)⟩<;>(try simp only[FW])<;>omega
    have hc4:=bp hb4;refine AW (m_ (h:=m_ (h:=?_)));refine A6 rfl (Ax 0 (hc:=N1 l _ (by omega)) (hR:=?_));rintro r a5 ha5 ⟨k5,rfl,hw⟩;refine⟨rfl,_,(by repeat constructor),?_⟩;refine A6 rfl (Dv rfl rfl (by(try simp only[FW]);omega) ?_);refine a_ (h:=AQ (Al (?_)));refine AK ?_;refine⟨_,⟨_,_,?_,?_,rfl⟩,(wk 1 0)⟩<;>(try simp only[FW])<;>omega
   have hc3:=bp hb3;refine AE (w_ (m_ (h:=?_)));refine A6 rfl (Ax 0 (hc:=Gn l _ (8) (by omega) (by omega)) (hR:=?_));rintro r a6 ha6 ⟨k6,rfl,p6,q6,o6⟩;refine⟨rfl,_,(by repeat constructor),?_⟩;refine AN (h:=e_ (?_));refine A9 rfl (fun hb5=>?_) (fun hb5=>?_)
   ·have hc5:=bp hb5;refine AW (m_ (h:=m_ (h:=Bo (h:=?_))));refine A6 rfl (Ax 0 (hc:=JJ l _ _ (fun s=>decide (s.size≤13)) (by omega) (by rfl) (by rfl) (by rfl)) (hR:=?_));rintro r a7 ha7 ⟨k7,rfl,p7⟩;refine⟨rfl,_,(by repeat constructor),?_⟩;have hw:=of_decide_eq_true p7;refine A6 rfl (Dv rfl rfl (by(try simp only[FW]);omega) ?_);refine a_ (h:=AQ (Al (?_)));refine AK ?_;refine⟨_,⟨_,_,?_,?_,rfl⟩,(wk 1 0)⟩<;>(try simp only[FW])<;>omega
   have hc5:=bp hb5;refine AW (m_ (h:=m_ (h:=?_)));refine A6 rfl (Ax 0 (hc:=N1 l _ (by omega)) (hR:=?_));rintro r a8 ha8 ⟨k8,rfl,hw⟩;refine⟨rfl,_,(by repeat constructor),?_⟩;refine A6 rfl (Dv rfl rfl (by(try simp only[FW]);omega) ?_);refine a_ (h:=AQ (Al (?_)));refine AK ?_;refine⟨_,⟨_,_,?_,?_,rfl⟩,(wk 1 0)⟩<;>(try simp only[FW])<;>omega
  rintro s ⟨b3,t1,hb3,ht1,rfl⟩;refine AW (m_ (h:=BE (h:=a_ (h:=AQ (?_)))));refine AK ?_;refine⟨_,_,?_,⟨j+1,_,_,by omega,rfl,?_,?_,rfl⟩,(wk 1 0)⟩<;>omega
 have hc2:=bp hb2;refine BL (Ai (Ai (BM (t_ (q_ (w_ (m_ (h:=?_))))))));refine A6 rfl (Ax 0 (hc:=Gn l _ (8) (by omega) (by omega)) (hR:=?_));rintro r a9 ha9 ⟨k9,rfl,p9,q9,o9⟩;refine⟨rfl,_,(by repeat constructor),?_⟩;refine AN (h:=e_ (?_));refine A9 rfl (fun hb6=>?_) (fun hb6=>?_)
 ·have hc6:=bp hb6;refine AW (m_ (h:=?_));refine A6 rfl (Dv rfl rfl (by(try simp only[FW]);omega) ?_);refine a_ (h:=e_ (w_ (m_ (h:=a_ (h:=e_ (A4 (?_)))))));refine Au none (h5:=(AX _)) (h6:=⟨_,rfl,rfl,_,?_,rfl,_,rfl,?_⟩)<;>(try simp only[FW])<;>omega
 have hc6:=bp hb6;refine AE (w_ (m_ (h:=a_ (h:=e_ (A4 (?_))))));refine Au none (h5:=(AX _)) (h6:=⟨_,rfl,rfl,_,?_,rfl,_,rfl,?_⟩)<;>(try simp only[FW])<;>omega
end
section
theorem Jy(l:List Int)(a:Nat)(f:AZ)(ha:a≤100000000000)(hf:FlsB f)(hne:∀d∈f,0<d.nodes.length):Dy prog 46 l a [.agg (Aq f)] 4 (fun r=>∃x:AA,r= .agg (AD x)):=by
 have hfew:=hf.few;have hml:(f.map Bi).length=f.length:=by simp
 refine enter Tryz.func46 rfl rfl rfl rfl rfl 1 rfl ?_;refine w_ (b_ (h:=Ac (h:=e_ (w_ (m_ (h:=f_ (h:=l_ (h:=n_ (h:=?_)))))))));refine A6 rfl (Ax 0 (hc:=Gn l _ ((f.map Bi).length:Int) (by omega) (by omega)) (hR:=?_));rintro r a1 ha1 ⟨k1,rfl,p1,q1,o1⟩;refine⟨rfl,_,(by repeat constructor),?_⟩;obtain⟨m,rfl⟩:=Int.eq_ofNat_of_zero_le p1;refine a_ (h:=e_ (q_ (w_ (f_ (h:=l_ (h:=n_ (h:=AN (h:=m_ (h:=?_)))))))));refine AR false rfl rfl (fun hb1=>?_) (fun hb1=>?_)
 ·have hc1:=bp hb1;refine A3 (h:=A3 (h:=A3 (h:=AB (h:=e_ (B2 (h:=w_ (m_ (h:=?_))))))));refine A6 rfl (Ax 0 (hc:=Ch l _ (-1) (3) (by omega) (by omega) (by omega) (by omega)) (hR:=?_));rintro r a2 ha2 ⟨k2,rfl,p2,q2⟩;refine⟨rfl,_,(by repeat constructor),?_⟩;refine m_ (h:=?_);refine A6 rfl (Ax 0 (hc:=Ch l _ (-1) (9) (by omega) (by omega) (by omega) (by omega)) (hR:=?_));rintro r a3 ha3 ⟨k3,rfl,p3,q3⟩;refine⟨rfl,_,(by repeat constructor),?_⟩;refine Ab (h:=s_ (h:=e_ (A4 (A7 (?_)))));refine Au none (h5:=(AX _)) (h6:=⟨_,rfl,rfl,_,?_,rfl,(_,_),rfl⟩)<;>omega
 have hc1:=bp hb1;refine m_ (h:=?_);refine Av (Ax 0 (hc:=Gn l _ (24) (by omega) (by omega)) (hR:=?_));rintro r a4 ha4 ⟨k4,rfl,p4,q4,o4⟩;refine⟨rfl,_,(by repeat constructor),?_⟩;refine AN (h:=AF (h:=e_ (?_)));refine A9 rfl (fun hb2=>?_) (fun hb2=>?_)
 ·have hc2:=bp hb2;refine w_ (m_ (h:=?_));refine A6 rfl (Ax 0 (hc:=Ch l _ (-1) (3) (by omega) (by omega) (by omega) (by omega)) (hR:=?_));rintro r a5 ha5 ⟨k5,rfl,p5,q5⟩;refine⟨rfl,_,(by repeat constructor),?_⟩;refine m_ (h:=?_);refine A6 rfl (Ax 0 (hc:=Ch l _ (-1) (9) (by omega) (by omega) (by omega) (by omega)) (hR:=?_));rintro r a6 ha6 ⟨k6,rfl,p6,q6⟩;refine⟨rfl,_,(by repeat constructor),?_⟩;refine Ab (h:=s_ (h:=e_ (A4 (A7 (?_)))));refine Au none (h5:=(AX _)) (h6:=⟨_,rfl,rfl,_,?_,rfl,(_,_),rfl⟩)<;>omega
 have hc2:=bp hb2;obtain⟨-,d,hd,hrow, -⟩:=Bv Bi (l:=f) (k:=m) (by omega);have hdn:=hf.nodes d (Ar hd);have hpos:=hne d (Ar hd);have hdl:(d.nodes.map Ak).length=d.nodes.length:=by simp
 refine AE (w_ (f_ (h:=l_ (h:=m_ (h:=?_)))));refine A6 rfl (DV (n:=m) rfl rfl rfl hrow ?_);refine f_ (h:=l_ (h:=a_ (h:=e_ (w_ (m_ (h:=m_ (h:=m_ (h:=m_ (h:=n_ (h:=?_))))))))));refine A6 rfl (Ax 0 (hc:=Gn l _ ((d.nodes.map Ak).length:Int) (by omega) (by omega)) (hR:=?_));rintro r a7 ha7 ⟨k7,rfl,p7,q7,o7⟩;refine⟨rfl,_,(by repeat constructor),?_⟩;obtain⟨i,rfl⟩:=Int.eq_ofNat_of_zero_le p7;obtain⟨-,n,hn,hrow2, -⟩:=Bv Ak (l:=d.nodes) (k:=i) (by omega);refine A6 rfl (DV (n:=i) rfl rfl rfl hrow2 ?_);refine f_ (h:=l_ (h:=Ab (h:=s_ (h:=e_ (A4 (?_))))));refine Au none (h5:=(AX _)) (h6:=⟨_,rfl,rfl,_,?_,rfl,(_,_),rfl⟩)<;>omega
end
section
theorem YF(l:List Int)(a:Nat)(ha:a≤10000000000):Dy prog 178 l a [] 60 (fun r=>∃n:Nod,n.target.size≤100∧n.entries=[]∧r= .agg (Ak n)):=by
 refine enter Tryz.func178 rfl rfl rfl rfl rfl 1 rfl ?_;refine w_ (Ac (h:=e_ (w_ (m_ (h:=Bo (h:=?_))))));refine A6 rfl (Ax 0 (hc:=E4 l _ _ (fun _=>true) (by omega) (by rfl) (by rfl) (by rfl)) (hR:=?_));rintro r a1 ha1 ⟨k1,rfl,p1⟩;refine⟨rfl,_,(by repeat constructor),?_⟩;refine m_ (h:=Bo (h:=?_));refine A6 rfl (Ax 0 (hc:=E4 l _ _ (fun _=>true) (by omega) (by rfl) (by rfl) (by rfl)) (hR:=?_));rintro r a2 ha2 ⟨k2,rfl,p2⟩;refine⟨rfl,_,(by repeat constructor),?_⟩;refine m_ (h:=Bo (h:=?_));refine A6 rfl (Ax 0 (hc:=E4 l _ _ (fun _=>true) (by omega) (by rfl) (by rfl) (by rfl)) (hR:=?_));rintro r a3 ha3 ⟨k3,rfl,p3⟩;refine⟨rfl,_,(by repeat constructor),?_⟩;refine m_ (h:=Bo (h:=?_));refine A6 rfl (Ax 0 (hc:=E4 l _ _ (fun _=>true) (by omega) (by rfl) (by rfl) (by rfl)) (hR:=?_));rintro r a4 ha4 ⟨k4,rfl,p4⟩;refine⟨rfl,_,(by repeat constructor),?_⟩;refine Ab (h:=Ac (h:=s_ (h:=e_ (?_))));refine CA (fun s=>∃(b:Nat) (ki mo ui gi:Int) (ta:ByteArray),b≤a+24∧ta.size≤100∧s=⟨look [(0, .bp 0 0),(2, .bp 1 0),(3, .bp 2 0)],⟨[Cm l b,[.v (.int .i64 0), .v (.int .i64 0), .v (.int .i64 0), .v (.int .i64 0), .v (.int .i64 0), .v (.int .i64 0), .v (.string ⟨#[]⟩), .v (.slice none 0 0)],[.v (.int .i64 0), .v (.int .i64 ki), .v (.int .i64 mo), .v (.int .i64 ui), .v (.int .i64 gi), .v (.int .i64 0), .v (.string ta), .v (.slice none 0 0)]],[]⟩⟩) ?_ ?_
 ·skip
  refine w_ (f_ (h:=l_ (h:=AN (h:=e_ (?_)))));refine A9 rfl (fun hb1=>?_) (fun hb1=>?_)
  ·have hc1:=bp hb1;refine AW (m_ (h:=?_));refine A6 rfl (Ax 0 (hc:=T3 l _ (by omega)) (hR:=?_));rintro r a5 ha5 ⟨k5,rfl,p5⟩;refine⟨rfl,_,(by repeat constructor),?_⟩;refine f_ (h:=s_ (h:=AQ (?_)));refine AK ?_;refine⟨_,⟨_,_,_,_,_,_,?_,?_,rfl⟩,(wk 3 0)⟩<;>first|omega|assumption|exact BU _
  have hc1:=bp hb1;refine Aw (?_);refine AK ?_;refine⟨_,⟨_,_,_,_,_,_,?_,?_,rfl⟩,(wk 3 0)⟩<;>first|omega|assumption|exact BU _
 rintro s ⟨b,ki,mo,ui,gi,ta,hb,hta,rfl⟩;refine CA (fun s=>∃(b2:Nat) (mo2:Int) (ta2:ByteArray),b2≤a+50∧ta2.size≤100∧s=⟨look [(2, .bp 1 0),(3, .bp 2 0)],⟨[Cm l b2,[.v (.int .i64 0), .v (.int .i64 0), .v (.int .i64 0), .v (.int .i64 0), .v (.int .i64 0), .v (.int .i64 0), .v (.string ⟨#[]⟩), .v (.slice none 0 0)],[.v (.int .i64 0), .v (.int .i64 ki), .v (.int .i64 mo2), .v (.int .i64 ui), .v (.int .i64 gi), .v (.int .i64 0), .v (.string ta2), .v (.slice none 0 0)]],[]⟩⟩) ?_ ?_
 ·skip
  refine w_ (m_ (h:=?_));refine A6 rfl (Ax 0 (hc:=Gn l _ (20) (by omega) (by omega)) (hR:=?_));rintro r a6 ha6 ⟨k6,rfl,p6,q6,o6⟩;refine⟨rfl,_,(by repeat constructor),?_⟩;refine AN (h:=e_ (?_));refine A9 rfl (fun hb2=>?_) (fun hb2=>?_)
  ·have hc2:=bp hb2;refine AW (m_ (h:=Bo (h:=?_)));refine A6 rfl (Ax 0 (hc:=E4 l _ _ (fun _=>true) (by omega) (by rfl) (by rfl) (by rfl)) (hR:=?_));rintro r a7 ha7 ⟨k7,rfl,p7⟩;refine⟨rfl,_,(by repeat constructor),?_⟩;refine m_ (h:=?_);refine A6 rfl (Ax 0 (hc:=T3 l _ (by omega)) (hR:=?_));rintro r a8 ha8 ⟨k8,rfl,p8⟩;refine⟨rfl,_,(by repeat constructor),?_⟩;refine f_ (h:=s_ (h:=f_ (h:=s_ (h:=AQ (?_)))));refine AK ?_;refine⟨_,⟨_,_,_,?_,?_,rfl⟩,(wk 3 0)⟩<;>first|omega|assumption
  have hc2:=bp hb2;refine Aw (?_);refine AK ?_;refine⟨_,⟨_,_,_,?_,?_,rfl⟩,(wk 3 0)⟩<;>first|omega|assumption
 rintro s ⟨b2,mo2,ta2,hb2,hta2,rfl⟩;refine w_ (l_ (h:=s_ (h:=e_ (A4 (?_)))));refine Au (r:= .agg (Ak ⟨0,ki,mo2,ui,gi,0,ta2,[]⟩)) none (h5:=(by repeat (first|exact AX _|exact LeA.nil _|exact LeL.refl _|refine LeA.agg ?_|refine LeA.tup ?_|exact LeL.nil|refine LeL.cons ?_ ?_|exact LeA.any _))) (h6:=⟨_,rfl,rfl,b2,by omega,rfl,⟨0,ki,mo2,ui,gi,0,ta2,[]⟩,hta2,rfl,rfl⟩)
end
theorem FlsV.ne{f:AZ}(h:FlsV f):∀d∈f,0<d.nodes.length:=fun d hd=>by
 obtain⟨r,rest,hr,_⟩:=(h.vd d hd).root;rw[hr];simp
theorem YG:VD JY:=by
 refine⟨by decide,by decide,by decide,⟨Mc,[],rfl,rfl,rfl,rfl⟩,List.pairwise_singleton _ _,?_,?_,?_,?_,?_,?_,?_,?_,?_,⟨fun _=>0,?_⟩⟩<;>
  (intro n hn;obtain rfl:n=Mc:=by simpa[JY]using hn)
 ·decide
 ·decide+kernel
 ·intro h;exact absurd rfl h
 ·decide
 ·exact List.Pairwise.nil
 ·intro e he;cases he
 ·intro h;exact absurd rfl h
 ·intro h;exact absurd rfl h
 ·intro h;exact absurd rfl h
 intro h;exact absurd rfl h
theorem T4{k:Int}(h1:1≤k)(h2:k≤3):FlsV (Dq k).1∧0<(Dq k).1.length:=by
 unfold Dq;rw[if_neg (by omega)];refine⟨⟨?_,fun d hd=>?_⟩,?_⟩
 ·show(List.replicate _ _).length≤3;rw[List.length_replicate];omega
 ·rw[(List.mem_replicate.1 hd).2];exact YG
 show 0<(List.replicate _ _).length;rw[List.length_replicate];omega
structure MntOK(f:AZ)(ms:List D8)(m:D8):Prop where
 dev1:1≤m.1
 dev2:m.1<(f.length:Int)
 fresh:C3 ⟨f,ms⟩ m.1=false
 dir:Am f m.2=true
 there:C3 ⟨f,ms⟩ m.2.1=true
 free:(Bw ⟨f,ms⟩ m.2).isSome=false
structure SpcV(s:Spc):Prop where
 files:FlsV s.files
 pos:0<s.files.length
 mnt:∀i m,s.mounts[i]?=some m→MntOK s.files (s.mounts.take i) m
theorem YH{s:Spc}(h:SpcV s)(dev:Int)(a:AA)(h0:(Cv s dev a).2=0):SpcV (Cv s dev a).1∧(Cv s dev a).1=⟨s.files,s.mounts++[(dev,a)]⟩:=by
 unfold Cv at h0 ⊢;split at h0
 ·exact absurd h0 (by decide)
 rename_i c1;split at h0
 ·exact absurd h0 (by decide)
 rename_i c2;split at h0
 ·exact absurd h0 (by decide)
 rename_i c3;split at h0
 ·exact absurd h0 (by decide)
 rename_i c4;split at h0
 ·exact absurd h0 (by decide)
 rename_i c5;rw[if_neg c1,if_neg c2,if_neg c3,if_neg c4,if_neg c5];refine⟨⟨h.files,h.pos,fun i m hi=>?_⟩,rfl⟩;simp only at hi ⊢;rcases Nat.lt_trichotomy i s.mounts.length with hlt|heq|hgt
 ·rw[CQ hlt]at hi;rw[List.take_append_of_le_length (by omega)];exact h.mnt i m hi
 ·subst heq;simp at hi;subst hi;rw[List.take_left' rfl];exact⟨by simp only;omega,by simp only;omega,by simpa using fun h=>c5 (.inl h),by simp only;rw[FQ];simp at c2 c3;simp[c2,c3],by simpa using fun h=>c4 (.inl h),Bool.eq_false_iff.2 fun h=>c5 (.inr h)⟩
 rw[List.getElem?_eq_none (by simp;omega)]at hi;cases hi
section
theorem YJ(l:List Int)(a:Nat)(f:AZ)(ha:a≤1000000000)(hv:FlsV f):Dy prog 122 l a [.agg (Aq f)] 80 (fun r=>∃f',r= .agg (Aq f')∧FlsV f'∧f'.length=f.length):=by
 have hf:=hv.b;have hne:=hv.ne;refine enter Tryz.func122 rfl rfl rfl rfl rfl 1 rfl ?_;refine w_ (b_ (h:=Ac (h:=e_ (w_ (m_ (h:=l_ (h:=?_)))))));refine A6 rfl (Ax 0 (hc:=Jy l _ f (by omega) hf hne) (hR:=?_));rintro r a1 ha1 ⟨x1,rfl⟩;refine⟨rfl,_,(by repeat constructor),?_⟩;refine m_ (h:=?_);refine A6 rfl (Ax 0 (hc:=N1 l _ (by omega)) (hR:=?_));rintro r a2 ha2 ⟨k2,rfl,p2⟩;refine⟨rfl,_,(by repeat constructor),?_⟩;refine Ac (h:=s_ (h:=a_ (h:=e_ (w_ (l_ (h:=Ac (h:=s_ (h:=a_ (h:=e_ (?_))))))))));refine CA (fun t=>∃(R1:AZ) (e:Int) (b:Nat),b≤a+80∧(e=0→FlsV R1∧R1.length=f.length)∧t=⟨look [(3, .bp 1 0),(4, .bp 2 0),(7, .bp 4 0),(8, .v (.int .i64 e))],⟨[Cm l b,Aq f,[.v (.slice none 0 0)],AD x1,Aq R1],[]⟩⟩) ?_ ?_
 ·skip
  refine w_ (m_ (h:=?_));refine A6 rfl (Ax 0 (hc:=Gn l _ (8) (by omega) (by omega)) (hR:=?_));rintro r a3 ha3 ⟨k3,rfl,p3,q3,o3⟩;refine⟨rfl,_,(by repeat constructor),?_⟩;refine e_ (Af (w_ (AN (h:=a_ (h:=e_ (?_))))));refine A9 rfl (fun hb1=>?_) (fun hb1=>?_)
  ·have hc1:=bp hb1;refine CE ([(1,Aq f),(2,[.v (.slice none 0 0)]),(3,AD x1)]) 13 (h:=AY 0 (h:=AY 1 (h:=Ap 2 (h:=Ap 3 (h:=AY 4 (h:=?_))))));refine c_ 5 rfl (Ax 0 (hc:=Jy l _ f (by omega) hf hne) (hR:=?_));rintro r a4 ha4 ⟨x4,rfl⟩;refine⟨rfl,_,(by repeat constructor),?_⟩;refine o_ (h:=?_);refine c_ 6 rfl (AJ (Xq f x1 k2 x4 hv (by omega)) ?_);rintro r rfl;refine o_ (h:=Ap 7 (h:=C2 8 (h:=C2 9 (h:=C2 10 (h:=?_)))));refine Bm 11 rfl (Bd rfl rfl rfl rfl rfl rfl (by repeat constructor) (by repeat constructor) ?_);refine o_ (h:=BN 12 (h:=z_ (h:=Al (?_))));refine AK ?_;refine⟨_,⟨_,_,_,?_,?_,rfl⟩,(wk 5 0)⟩
   ·omega
   first|exact Jq hv _ _ _|exact Jr hv _ _|exact Js hv _ _|exact Jv hv _ _ _ _|exact Jt hv _ _ _ _|exact Ju hv _ _ _
  have hc1:=bp hb1;refine w_ (AN (h:=a_ (h:=e_ (?_))));refine A9 rfl (fun hb2=>?_) (fun hb2=>?_)
  ·have hc2:=bp hb2;refine AW (l_ (h:=l_ (h:=m_ (h:=?_))));refine A6 rfl (AJ (Xs f x1 k2 hv (by omega)) ?_);rintro r rfl;refine m_ (h:=x_ (h:=x_ (h:=x_ (h:=s_ (h:=a_ (h:=AQ (Al (?_))))))));refine AK ?_;refine⟨_,⟨_,_,_,?_,?_,rfl⟩,(wk 5 0)⟩
   ·omega
   first|exact Jq hv _ _ _|exact Jr hv _ _|exact Js hv _ _|exact Jv hv _ _ _ _|exact Jt hv _ _ _ _|exact Ju hv _ _ _
  have hc2:=bp hb2;refine w_ (AN (h:=a_ (h:=e_ (?_))));refine A9 rfl (fun hb3=>?_) (fun hb3=>?_)
  ·have hc3:=bp hb3;refine AW (l_ (h:=l_ (h:=m_ (h:=?_))));refine A6 rfl (AJ (Xt f x1 k2 hv (by omega)) ?_);rintro r rfl;refine m_ (h:=x_ (h:=x_ (h:=x_ (h:=s_ (h:=a_ (h:=AQ (Al (?_))))))));refine AK ?_;refine⟨_,⟨_,_,_,?_,?_,rfl⟩,(wk 5 0)⟩
   ·omega
   first|exact Jq hv _ _ _|exact Jr hv _ _|exact Js hv _ _|exact Jv hv _ _ _ _|exact Jt hv _ _ _ _|exact Ju hv _ _ _
  have hc3:=bp hb3;refine w_ (AN (h:=a_ (h:=e_ (?_))));refine A9 rfl (fun hb4=>?_) (fun hb4=>?_)
  ·have hc4:=bp hb4;refine CE ([(1,Aq f),(2,[.v (.slice none 0 0)]),(3,AD x1)]) 15 (h:=AY 0 (h:=AY 1 (h:=Ap 2 (h:=Ap 3 (h:=AY 4 (h:=Ap 6 (h:=?_)))))));refine c_ 5 rfl (Ax 0 (hc:=Jy l _ f (by omega) hf hne) (hR:=?_));rintro r a5 ha5 ⟨x5,rfl⟩;refine⟨rfl,_,(by repeat constructor),?_⟩;refine o_ (h:=?_);refine c_ 7 rfl (Ax 0 (hc:=N1 l _ (by omega)) (hR:=?_));rintro r a6 ha6 ⟨k6,rfl,p6⟩;refine⟨rfl,_,(by repeat constructor),?_⟩;refine o_ (h:=?_);refine c_ 8 rfl (AJ (Y9 f x1 k2 x5 k6 hv (by omega) (by omega)) ?_);rintro r rfl;refine o_ (h:=Ap 9 (h:=C2 10 (h:=C2 11 (h:=C2 12 (h:=?_)))));refine Bm 13 rfl (Bd rfl rfl rfl rfl rfl rfl (by repeat constructor) (by repeat constructor) ?_);refine o_ (h:=BN 14 (h:=z_ (h:=Al (?_))));refine AK ?_;refine⟨_,⟨_,_,_,?_,?_,rfl⟩,(wk 5 0)⟩
   ·omega
   first|exact Jq hv _ _ _|exact Jr hv _ _|exact Js hv _ _|exact Jv hv _ _ _ _|exact Jt hv _ _ _ _|exact Ju hv _ _ _
  have hc4:=bp hb4;refine w_ (AN (h:=a_ (h:=e_ (?_))));refine A9 rfl (fun hb5=>?_) (fun hb5=>?_)
  ·have hc5:=bp hb5;refine CE ([(1,Aq f),(2,[.v (.slice none 0 0)]),(3,AD x1)]) 12 (h:=AY 0 (h:=AY 1 (h:=Ap 2 (h:=Ap 4 (h:=?_)))));refine c_ 3 rfl (Ax 0 (hc:=Gn l _ (9) (by omega) (by omega)) (hR:=?_));rintro r a7 ha7 ⟨k7,rfl,p7,q7,o7⟩;refine⟨rfl,_,(by repeat constructor),?_⟩;refine o_ (h:=?_);refine c_ 5 rfl (Ax 0 (hc:=Gn l _ (9) (by omega) (by omega)) (hR:=?_));rintro r a8 ha8 ⟨k8,rfl,p8,q8,o8⟩;refine⟨rfl,_,(by repeat constructor),?_⟩;refine o_ (h:=?_);refine c_ 6 rfl (AJ (Xw f x1 511 k7 k8 hv) ?_);rintro r rfl;refine o_ (h:=Ap 7 (h:=C2 8 (h:=C2 9 (h:=?_))));refine Bm 10 rfl (Bd rfl rfl rfl rfl rfl rfl (by repeat constructor) (by repeat constructor) ?_);refine o_ (h:=BN 11 (h:=z_ (h:=Al (?_))));refine AK ?_;refine⟨_,⟨_,_,_,?_,?_,rfl⟩,(wk 5 0)⟩
   ·omega
   first|exact Jq hv _ _ _|exact Jr hv _ _|exact Js hv _ _|exact Jv hv _ _ _ _|exact Jt hv _ _ _ _|exact Ju hv _ _ _
  have hc5:=bp hb5;refine CE ([(1,Aq f),(2,[.v (.slice none 0 0)]),(3,AD x1)]) 12 (h:=AY 0 (h:=AY 1 (h:=Ap 2 (h:=Ap 3 (h:=?_)))));refine c_ 4 rfl (Ax 0 (hc:=YF l _ (by omega)) (hR:=?_));rintro r a9 ha9 ⟨n9,ht9,he9,rfl⟩;refine⟨rfl,_,(by repeat constructor),?_⟩;refine o_ (h:=?_);refine c_ 5 rfl (AJ (Xx f x1 k2 n9 hv (by omega) (by omega)) ?_);rintro r rfl;refine o_ (h:=Ap 6 (h:=C2 7 (h:=C2 8 (h:=C2 9 (h:=?_)))));refine Bm 10 rfl (Bd rfl rfl rfl rfl rfl rfl (by repeat constructor) (by repeat constructor) ?_);refine o_ (h:=BN 11 (h:=z_ (h:=Al (?_))));refine AK ?_;refine⟨_,⟨_,_,_,?_,?_,rfl⟩,(wk 5 0)⟩
  ·omega
  first|exact Jq hv _ _ _|exact Jr hv _ _|exact Js hv _ _|exact Jv hv _ _ _ _|exact Jt hv _ _ _ _|exact Ju hv _ _ _
 rintro t ⟨R1,e,b,hb,hok,rfl⟩;refine q_ (w_ (m_ (h:=Ao (h:=e_ (?_)))));refine A9 rfl (fun hb6=>?_) (fun hb6=>?_)
 ·have hc6:=bp hb6;refine w_ (l_ (h:=s_ (h:=e_ (A4 (A7 (?_))))));refine Au none (h5:=(AX _)) (h6:=⟨_,rfl,rfl,b,hb,rfl,f,rfl,hv,rfl⟩)
 have hc6:=bp hb6;refine AE (w_ (l_ (h:=s_ (h:=e_ (A4 (?_))))));refine Au none (h5:=(AX _)) (h6:=⟨_,rfl,rfl,b,hb,rfl,R1,rfl,hok (by omega)⟩)
theorem YK(l:List Int)(a:Nat)(ha:a≤100000000):Dy prog 75 l a [] 1000 (fun r=>∃f,r= .agg (Aq f)∧FlsV f∧0<f.length):=by
 refine enter Tryz.func75 rfl rfl rfl rfl rfl 1 rfl ?_;refine w_ (Ac (h:=e_ (w_ (m_ (h:=?_)))));refine A6 rfl (Ax 0 (hc:=Ch l _ (1) (3) (by omega) (by omega) (by omega) (by omega)) (hR:=?_));rintro r a1 ha1 ⟨k1,rfl,p1,q1⟩;refine⟨rfl,_,(by repeat constructor),?_⟩;refine A6 rfl (AJ (Rs k1) ?_);rintro r rfl;refine m_ (h:=x_ (h:=x_ (h:=Ac (h:=s_ (h:=a_ (h:=e_ (q_ (w_ (m_ (h:=?_))))))))));refine A6 rfl (Ax 0 (hc:=Ch l _ (2) (12) (by omega) (by omega) (by omega) (by omega)) (hR:=?_));rintro r a2 ha2 ⟨k2,rfl,p2,q2⟩;refine⟨rfl,_,(by repeat constructor),?_⟩;refine a_ (h:=e_ (Af (?_)));obtain⟨hv0,hp0⟩:=T4 p1 q1;obtain⟨M,rfl⟩:=Int.eq_ofNat_of_zero_le (show 0≤k2 by omega);refine BW (fun n s=>∃(j b:Nat) (f:AZ),j≤M∧n=j∧b+80 * j≤a+2+80 * M∧FlsV f∧0<f.length∧s=⟨look [(0, .bp 0 0),(2, .bp 1 0),(3, .bp 2 0),(5, .v (.int .i64 (j:Int)))],⟨[Cm l b,[.v (.slice none 0 0)],Aq f],[]⟩⟩) (M) ((wk 3 0)) (⟨M,_,_,At _,rfl,by omega,hv0,hp0,rfl⟩) ?_;rintro n s ⟨j,b,f,hj,rfl,hb,hv,hp,rfl⟩;refine q_ (w_ (m_ (h:=Bb (h:=e_ (?_)))));refine A9 rfl (fun hb1=>?_) (fun hb1=>?_)
 ·have hc1:=bp hb1;refine AE (q_ (Af (AW (m_ (h:=l_ (h:=?_))))));refine A6 rfl (Ax 0 (hc:=YJ l _ f (by omega) hv) (hR:=?_));rintro r a3 ha3 ⟨f3,rfl,hv3,hl3⟩;refine⟨rfl,_,(by repeat constructor),?_⟩;refine s_ (h:=AQ (Al (t_ (AW (m_ (h:=?_))))));refine A6 rfl (Ho rfl rfl (by omega) ?_);refine a_ (h:=AQ (?_));refine AK ?_;refine⟨n - 1,_,by omega,⟨n - 1,_,f3,by omega,rfl,?_,hv3,by omega,rfl⟩,(by rw[show((n - 1:Nat):Int)=(n:Int) - 1 by omega];exact Az 3 0 rfl rfl rfl rfl ((by repeat (first|exact Sub.nil|refine B0 rfl rfl ?_|refine B3 ?_|refine B4 rfl ?_|refine B5 rfl ?_))))⟩;omega
 have hc1:=bp hb1;refine BL (Ai (Ai (BM (t_ (w_ (l_ (h:=s_ (h:=e_ (A4 (?_))))))))));refine Au none (h5:=(AX _)) (h6:=⟨_,rfl,rfl,b,by omega,rfl,f,rfl,hv,hp⟩)
end
end Go.Proofs.YtbgnigjfkbmceaaGreatDoor
