/-
  Part 9 of the proof of FilterLoadsP: what the statement's proof uses of the texts in wip/tpl.
-/
import Derived.Test.YtbgnigjfkbmceaaGreatDoorQd8
open Go.Proofs.Tryz (prog)
set_option maxRecDepth 10000
set_option maxHeartbeats 4000000
set_option linter.unusedVariables false
set_option linter.unusedSimpArgs false
namespace Go.Proofs.YtbgnigjfkbmceaaGreatDoor
open Go.RowKit
theorem Xp(n:Nat):∀j,FM [] n j=some (n+j):=fun j=>by simp[FM]
theorem Jl{bx:List (List AV)}{n:Nat}(hn:bx.length=n)(f:AZ)(q:Nat)(d:Dvc)(ns:List Nod)(cap cap1:Nat):Back bx [] [DB f q d 1 cap cap1,NB ns cap1] (bx++[DB f q d (n+1) cap cap1,NB ns cap1]):=by
 subst hn;refine⟨by simp,fun i row _ h=>?_,fun k i row h=>by simp at h,fun k row h=>?_⟩
 ·rw[CQ (Ah.1 h).1];exact h
 rw[Cy (by omega),show bx.length+k - bx.length=k by omega];simp only[List.length_nil,Nat.zero_add]at h
 match k,h with
 |0,h=>injection h with h;subst h;rw[F1 (Xp _ 1)];rfl
 |1,h=>injection h with h;subst h;rw[Eh];rfl
 |k+2,h=>simp at h
theorem Jm{bx:List (List AV)}{i0 i1:Nat}(h0:i0<bx.length)(h1:i1<bx.length)(hne:i0≠i1)(f:AZ)(q:Nat)(d:Dvc)(ns:List Nod)(cap cap1 cap1':Nat):
    Back bx [i0,i1] [DB f q d 1 cap cap1,NB ns cap1'] ((bx.set i0 (DB f q d i1 cap cap1)).set i1 (NB ns cap1')):=by
 refine⟨by simp,fun i row hi h=>?_,fun k i row h hr=>?_,fun k row h=>by simp at h⟩
 ·simp only[List.mem_cons,List.not_mem_nil,or_false,not_or]at hi;rw[List.getElem?_set_ne (Ne.symm hi.2),List.getElem?_set_ne (Ne.symm hi.1)];exact h
 match k,h,hr with
 |0,h,hr=>
   simp at h hr;subst h;subst hr;rw[List.getElem?_set_ne (Ne.symm hne),List.getElem?_set_self h0,F1 (g:=FM [i0,i1] bx.length) (j:=1) (j':=i1) rfl]
 |1,h,hr=>
   simp at h hr;subst h;subst hr;rw[List.getElem?_set_self (by simpa using h1),Eh]
 |k+2,h,_=>simp at h
theorem PL{bx:List (List AV)}{n i0 i1:Nat}(hn:bx.length=n)(h0:i0<n)(h1:i1<n)(hne:i0≠i1)(f:AZ)(q:Nat)(d:Dvc)(ns ns':List Nod)(a:AA)(l cap0 cap cap1 cap2:Nat):
    Back bx [i0,i1] [DB f q d 4 cap cap2,NB ns cap1,[.bs 0 0 2 l cap0],AD a,NB ns' cap2] ((bx.set i0 (DB f q d (n+2) cap cap2)).set i1 (NB ns cap1)++[[.bs i0 0 2 l cap0],AD a,NB ns' cap2]):=by
 subst hn;have hl:((bx.set i0 (DB f q d (bx.length+2) cap cap2)).set i1 (NB ns cap1)).length=bx.length:=by simp
 refine⟨by simp,fun i row hi h=>?_,fun k i row h hr=>?_,fun k row h=>?_⟩
 ·simp only[List.mem_cons,List.not_mem_nil,or_false,not_or]at hi;rw[CQ (by rw[hl];exact(Ah.1 h).1),List.getElem?_set_ne (Ne.symm hi.2),List.getElem?_set_ne (Ne.symm hi.1)];exact h
 ·match k,h,hr with
  |0,h,hr=>
    simp at h hr;subst h;subst hr;rw[CQ (by rw[hl];exact h0),List.getElem?_set_ne (Ne.symm hne),List.getElem?_set_self h0,F1 (g:=FM [i0,i1] bx.length) (j:=4) (j':=bx.length+2) rfl]
  |1,h,hr=>
    simp at h hr;subst h;subst hr;rw[CQ (by rw[hl];exact h1),List.getElem?_set_self (by simpa using h1),Eh]
  |k+2,h,_=>simp at h
 rw[Cy (by rw[hl];omega),hl,show bx.length+k - bx.length=k by omega]
 match k,h with
 |0,h=>injection h with h;subst h;rfl
 |1,h=>injection h with h;subst h;rfl
 |2,h=>injection h with h;subst h;rw[Eh];rfl
 |k+3,h=>rw[List.getElem?_eq_none (by simp;omega)]at h;cases h
theorem PM{bx:List (List AV)}{n i0 i1:Nat}(hn:bx.length=n)(h0:i0<n)(h1:i1<n)(hne:i0≠i1)(f:AZ)(q:Nat)(d:Dvc)(ns:List Nod)(a:AA)(l cap0 cap cap1 cap1':Nat):
    Back bx [i0,i1] [DB f q d 1 cap cap1,NB ns cap1',[.bs 0 0 2 l cap0],AD a] ((bx.set i0 (DB f q d i1 cap cap1)).set i1 (NB ns cap1')++[[.bs i0 0 2 l cap0],AD a]):=by
 subst hn;have hl:((bx.set i0 (DB f q d i1 cap cap1)).set i1 (NB ns cap1')).length=bx.length:=by simp
 refine⟨by simp,fun i row hi h=>?_,fun k i row h hr=>?_,fun k row h=>?_⟩
 ·simp only[List.mem_cons,List.not_mem_nil,or_false,not_or]at hi;rw[CQ (by rw[hl];exact(Ah.1 h).1),List.getElem?_set_ne (Ne.symm hi.2),List.getElem?_set_ne (Ne.symm hi.1)];exact h
 ·match k,h,hr with
  |0,h,hr=>
    simp at h hr;subst h;subst hr;rw[CQ (by rw[hl];exact h0),List.getElem?_set_ne (Ne.symm hne),List.getElem?_set_self h0,F1 (g:=FM [i0,i1] bx.length) (j:=1) (j':=i1) rfl]
  |1,h,hr=>
    simp at h hr;subst h;subst hr;rw[CQ (by rw[hl];exact h1),List.getElem?_set_self (by simpa using h1),Eh]
  |k+2,h,_=>simp at h
 rw[Cy (by rw[hl];omega),hl,show bx.length+k - bx.length=k by omega]
 match k,h with
 |0,h=>injection h with h;subst h;rfl
 |1,h=>injection h with h;subst h;rfl
 |k+2,h=>rw[List.getElem?_eq_none (by simp;omega)]at h;cases h
theorem Sj{f:AZ}{q:Nat}{d d':Dvc}(hn:d'.next=d.next)(hl:d'.nodes.length=d.nodes.length)(j cap cap1:Nat):DB f q d j cap cap1=DB (f.set q d') q d' j cap cap1:=by
 unfold DB EE FR;rw[List.map_set,List.set_set,hn,hl]
theorem FT{n:Nat}{bx:List (List AV)}{k i j:Nat}{f:AZ}{q:Nat}{d d':Dvc}{cap cap0 cap1:Nat}(hq:q<f.length)(hn:d'.next=d.next)(hl:d'.nodes.length=d.nodes.length)(hc:f.length≤cap)(hc1:d'.nodes.length≤cap1)(hni:n≤i)(hnj:n≤j)
    (hi:bx[i]?=some (DB f q d j cap cap1)) (hj:bx[j]?=some (NB d'.nodes cap1)):Eu n (Cz n bx (k+2)) [.bs i 0 2 f.length cap0]=Aq (f.set q d'):=by
 have:Nat.blt i n=false:=by rw[←Bool.not_eq_true,Nat.blt_eq];omega
 have key:=HQ (n:=n) (bx:=bx) (k:=k) (i:=i) (j:=j) (f:=f.set q d') (K:=q) (d:=d') (cap:=cap) (cap0:=cap0) (cap1:=cap1) (by simp[hq]) (by simpa using hc) hc1 hni hnj (by rw[hi,Sj hn hl]) hj;rw[List.length_set]at key;have key2:AV.agg [DK (Cz n bx (k+2)) (.bs i 0 2 f.length cap0)]=AV.agg (Aq (f.set q d')):=key;have e:Eu n (Cz n bx (k+2)) [.bs i 0 2 f.length cap0]=[DK (Cz n bx (k+2)) (.bs i 0 2 f.length cap0)]:=by simp only[Eu,Dz,this]
 rw[e];injection key2
structure FlsV(f:AZ):Prop where
 few:f.length≤3
 vd:∀d∈f,VD d
theorem FlsV.b{f:AZ}(h:FlsV f):FlsB f:=⟨by have:=h.few;omega,fun d hd=>by have:=(h.vd d hd).len;omega,fun d hd n hn=>by have:=(h.vd d hd).many n hn;omega⟩
theorem LJ{ns:List Nod}(h:DM ns){i:Nat}{n:Nod}(hi:ns[i]?=some n)(g:Nod→Nod):ns.set i (g n)=CN ns n.ino g:=by
 apply List.ext_getElem?;intro k;unfold CN;rw[List.getElem?_map,List.getElem?_set];have hil:=(Ah.1 hi).1;split
 ·rename_i e;subst e;rw[hi];simp[hil]
 rename_i e
 cases hk:ns[k]? with
 |none=>rfl
 |some m=>
   have:m.ino≠n.ino:=by
    intro em;obtain⟨l1,e1⟩:=Ah.1 hi;obtain⟨l2,e2⟩:=Ah.1 hk;have hp:=List.pairwise_iff_getElem.1 h;rcases Nat.lt_or_gt_of_ne e with hlt|hlt
    ·have:=hp i k l1 l2 hlt;rw[e1,e2]at this;omega
    have:=hp k i l2 l1 hlt;rw[e1,e2]at this;omega
   simp[this]
def GB(f:AZ)(q:Nat)(g:List Nod→List Nod):AZ:=f.modify q fun d=>{d with nodes:=g d.nodes}
theorem FU{f:AZ}{q:Nat}{d:Dvc}(h:f[q]?=some d)(g:List Nod→List Nod):GB f q g=f.set q {d with nodes:=g d.nodes}:=by
 apply List.ext_getElem?;intro k;unfold GB;rw[List.getElem?_modify,List.getElem?_set];split
 ·rename_i e;subst e;rw[h];simp[(Ah.1 h).1]
 simp
theorem FV{f:AZ}{dir:AA}{name:AG}(h:CB f dir name=0):∃(q i:Nat) (d:Dvc) (n0:Nod),dir.1=(q:Int)∧f[q]?=some d∧d.nodes[i]?=some n0∧n0.ino=dir.2∧ED f dir=(i:Int)∧Bk f dir=some n0∧n0.kind=2∧Cn name=true:=by
 rcases GP f dir with⟨_,h2⟩|⟨q,i,d,n,h1,h2,h3,h4,h5,h6⟩
 ·simp[CB,h2]at h
 refine⟨q,i,d,n,h1,h2,h3,h4,h5,h6,?_⟩;simp only[CB,h6]at h;split at h
 ·rename_i hk;split at h
  ·rename_i hn;exact⟨hk,hn⟩
  omega
 omega
def CO(R:J5):AV:= .tup [.agg (Aq R.1), .sl 7 (R.2.1.map E3) none, .v (.int .i64 R.2.2)]
theorem Cu(e:Int):LeA (.tup [.agg [.v (.slice none 0 0)], .v (.slice none 0 0), .v (.int .i64 e)]) (CO ([],[],e)):=(by repeat (first|exact AX _|exact LeA.nil _|exact LeL.refl _|refine LeA.agg ?_|refine LeA.tup ?_|exact LeL.nil|refine LeL.cons ?_ ?_|exact LeA.any _))
def EG(f:AZ)(dir:AA)(name:AG)(a:AA):J5:=
 if CB f dir name≠0 then([],[],CB f dir name)else if Cg f a=false then([],[],2)else if a.1≠dir.1 then([],[],18)else if(As f a).kind=2 then([],[],1)else
 if(AO f dir name).2=0 then([],[],17)else if GR f dir=true then([],[],28)else(GB f dir.1.toNat fun ns=>BV ns dir.2 name a.2,[(dir,name,(0,0),a)],0)
section
theorem Xq(f:AZ)(dir:AA)(name:AG)(a:AA)(hv:FlsV f)(hs:name.size≤100000):AFn prog 172 [.agg (Aq f), .agg (AD dir), .v (.string name), .agg (AD a)] (fun r=>r=CO (EG f dir name a)):=by
 have hf:=hv.b;refine enter Tryz.func172 rfl rfl rfl rfl rfl 0 rfl ?_;refine w_ (b_ (h:=b_ (h:=b_ (h:=Ac (h:=a_ (h:=a_ (h:=e_ (q_ (w_ (l_ (h:=l_ (h:=m_ (h:=?_)))))))))))));refine A6 rfl (AJ (Ja f dir name hf hs) ?_);rintro r rfl;refine a_ (h:=e_ (w_ (m_ (h:=Ao (h:=e_ (?_))))));refine A9 rfl (fun hb1=>?_) (fun hb1=>?_)
 ·have hc1:=bp hb1;refine w_ (Ab (h:=m_ (h:=s_ (h:=a_ (h:=a_ (h:=e_ (A4 (A7 (?_)))))))));refine Au (r:=CO (EG f dir name a)) none (h5:=?_) (h6:=⟨rfl,rfl,rfl⟩);rw[EG,if_pos (by omega)];exact Cu _
 have hc1:=bp hb1;refine AE (w_ (l_ (h:=l_ (h:=?_))));refine A6 rfl (AJ (Ed f a hf) ?_);rintro r rfl;refine m_ (h:=x_ (h:=x_ (h:=Ac (h:=s_ (h:=a_ (h:=e_ (q_ (w_ (m_ (h:=BB (h:=e_ (?_))))))))))));refine A9 rfl (fun hb2=>?_) (fun hb2=>?_)
 ·have hc2:=bp hb2;refine w_ (Ab (h:=s_ (h:=a_ (h:=a_ (h:=e_ (A4 (A7 (?_))))))));refine Au (r:=CO (EG f dir name a)) none (h5:=?_) (h6:=⟨rfl,rfl,rfl⟩);rw[EG,if_neg (by omega),if_pos hc2];exact Cu _
 have hc2:=bp hb2;refine AE (q_ (w_ (f_ (h:=l_ (h:=f_ (h:=l_ (h:=Ao (h:=e_ (?_)))))))));refine A9 rfl (fun hb3=>?_) (fun hb3=>?_)
 ·have hc3:=bp hb3;refine w_ (Ab (h:=s_ (h:=a_ (h:=a_ (h:=e_ (A4 (A7 (?_))))))));refine Au (r:=CO (EG f dir name a)) none (h5:=?_) (h6:=⟨rfl,rfl,rfl⟩);rw[EG,if_neg (by omega),if_neg (by simp[hc2]),if_pos (by omega)];exact Cu _
 have hc3:=bp hb3;refine AE (q_ (w_ (f_ (h:=l_ (h:=AN (h:=e_ (?_)))))));refine A9 rfl (fun hb4=>?_) (fun hb4=>?_)
 ·have hc4:=bp hb4;refine w_ (Ab (h:=s_ (h:=a_ (h:=a_ (h:=e_ (A4 (A7 (?_))))))));refine Au (r:=CO (EG f dir name a)) none (h5:=?_) (h6:=⟨rfl,rfl,rfl⟩);rw[EG,if_neg (by omega),if_neg (by simp[hc2]),if_neg (by omega),if_pos hc4];exact Cu _
 have hc4:=bp hb4;refine AE (q_ (w_ (l_ (h:=l_ (h:=m_ (h:=?_))))));refine A6 rfl (AJ (H3 f dir name hf) ?_);rintro r rfl;refine m_ (h:=x_ (h:=x_ (h:=Ac (h:=s_ (h:=a_ (h:=e_ (w_ (m_ (h:=AN (h:=e_ (?_)))))))))));refine A9 rfl (fun hb5=>?_) (fun hb5=>?_)
 ·have hc5:=bp hb5;refine w_ (Ab (h:=s_ (h:=a_ (h:=a_ (h:=e_ (A4 (A7 (?_))))))));refine Au (r:=CO (EG f dir name a)) none (h5:=?_) (h6:=⟨rfl,rfl,rfl⟩);rw[EG,if_neg (by omega),if_neg (by simp[hc2]),if_neg (by omega),if_neg hc4,if_pos hc5];exact Cu _
 have hc5:=bp hb5;refine AE (q_ (w_ (l_ (h:=l_ (h:=?_)))));refine A6 rfl (AJ (OR f dir hf) ?_);rintro r rfl;refine e_ (?_);refine A9 rfl (fun hb6=>?_) (fun hb6=>?_)
 ·have hc6:=bp hb6;refine w_ (Ab (h:=s_ (h:=a_ (h:=a_ (h:=e_ (A4 (A7 (?_))))))));refine Au (r:=CO (EG f dir name a)) none (h5:=?_) (h6:=⟨rfl,rfl,rfl⟩);rw[EG,if_neg (by omega),if_neg (by simp[hc2]),if_neg (by omega),if_neg hc4,if_neg hc5,if_pos hc6];exact Cu _
 have hc6:=bp hb6;obtain⟨q,i,d,n0,hdq,hq,hn0,hino,hidx,hnode,hk0,hnm⟩:=FV (name:=name) (dir:=dir) (f:=f) (by omega);have hil:=(Ah.1 hn0).1;have hql:=(Ah.1 hq).1;refine AE (w_ (l_ (h:=?_)));refine A6 rfl (EB [] rfl (.cons _ _ _ _ _ rfl (AX _) .nil) (by decide) .nil (Jh f q d hf hq (by omega)) ?_);rintro r bc tc ⟨rfl,cap,cap1,hcap,hcap1,rfl,rfl⟩;refine⟨rfl,_,(Jl (n:=6) rfl f q d d.nodes cap cap1:Back _ [] _ [_,_,_,_,_,_,_,_]),?_⟩;refine Ac (h:=s_ (h:=e_ (w_ (l_ (h:=l_ (h:=m_ (h:=f_ (h:=l_ (h:=?_)))))))));refine A6 rfl (EB [6,7] rfl (.cons _ _ _ _ _ rfl (AX _) (.cons _ _ _ _ _ rfl (AX _) (.cons _ _ _ _ _ rfl (AX _) (.cons _ _ _ _ _ rfl (AX _) .nil)))) (by decide) (.cons _ _ _ _ _ rfl (F1 (by rfl) _ _ _ _ _) (.cons _ _ _ _ _ rfl (Eh _ _ _) .nil)) (L5 f q d n0 i dir name a.2 cap cap1 hf hq hdq hidx hn0 hcap hcap1) ?_);rintro r bc tc ⟨rfl,rfl,rfl⟩;refine⟨rfl,_,(Jm (B8 rfl) (B8 rfl) (by decide) f q d _ cap cap1 cap1:Back _ [6,7] _ [_,_,_,_,_,_,_,_,_]),?_⟩;refine e_ (?_);refine CA (fun t=>t=⟨look [(8, .bp 3 0),(9, .sl 7 [E3 (dir,name,(0,0),a)] none),(10, .v (.int .i64 0))],⟨[Aq f,AD dir,AD a,Aq (f.set q {d with nodes:=d.nodes.set i {n0 with entries:=CL n0.entries name a.2}})],[]⟩⟩) ?_ ?_
 ·skip
  refine CE ([(0,Aq f),(1,AD dir),(2,AD a),(6,DB f q d 7 cap cap1),(7,NB (d.nodes.set i {n0 with entries:=CL n0.entries name a.2}) cap1),(8,[.bs 6 0 2 f.length cap])]) 9 (h:=AY 0 (h:=AY 1 (h:=Ap 2 (h:=?_))));refine BK 3 rfl (fun _ hS=>Fz (y:= .agg (AD (0,0))) (E0 ⟨rfl,rfl⟩) (by repeat (first|exact AX _|exact LeA.nil _|exact LeL.refl _|refine LeA.agg ⟨rfl,rfl⟩|refine LeA.tup ⟨rfl,rfl⟩|exact LeL.nil|refine LeL.cons ⟨rfl,rfl⟩ ⟨rfl,rfl⟩|exact LeA.any _)) ⟨rfl,rfl⟩) ?_;refine AY 4 (h:=?_);refine c_ 5 rfl (AJ (J8 dir name (0,0) a) ?_);rintro r rfl;refine o_ (h:=?_);refine Bm 6 rfl (Bd rfl rfl rfl rfl rfl rfl (by repeat constructor) (by repeat constructor) ?_);refine o_ (h:=BN 7 (h:=BN 8 (h:=z_ (h:=?_))));refine AK ?_;exact⟨_,rfl,Ew 4 2 rfl (by show[_,_,_,Eu 4 (Cz 4 _ 2) [.bs 6 0 2 f.length cap]]=_;rw[FT (k:=0) (i:=6) (j:=7) (d:=d) (d':={d with nodes:=d.nodes.set i {n0 with entries:=CL n0.entries name a.2}}) hql rfl (by simp) hcap (by simpa using hcap1) (by decide) (by decide) rfl rfl];rfl) (.cons _ _ _ _ rfl (AX _) (.cons _ _ _ _ rfl (AX _) (.cons _ _ _ _ rfl (AX _) .nil)))⟩
 rintro t rfl;refine A4 (?_);refine A8 ?_;rw[EG,if_neg (by omega),if_neg (by simp[hc2]),if_neg (by omega),if_neg hc4,if_neg hc5,if_neg (by simp[hc6]),hdq,Int.toNat_natCast,FU hq,←hino];unfold BV;rw[←LJ (hv.vd d (Ar hq)).asc hn0];rfl
end
theorem LK{f:AZ}{dir:AA}{name:AG}{n0:Nod}(hn:Bk f dir=some n0)(hk:n0.kind=2)(h:(AO f dir name).2=0):∃e,Cs n0.entries name=some e∧AO f dir name=((dir.1,e.2),0):=by
 unfold AO at h ⊢;rw[hn]at h ⊢;simp only[hk,if_true]at h ⊢;unfold Cs;split at h
 ·exact absurd h (by decide)
 rename_i e he;exact⟨e,he,rfl⟩
def entS(ns:List Nod)(i:Nat)(n0:Nod)(name:AG)(ino:Int):List Nod:=ns.set i {n0 with entries:=CL n0.entries name ino}
theorem F4(ns:List Nod)(i:Nat)(n0:Nod)(name:AG)(ino:Int):(entS ns i n0 name ino).length=ns.length:=by simp[entS]
theorem PN(es:List BF)(name:AG)(ino:Int):(CL es name ino).length≤es.length+1:=by
 by_cases h:ino=0
 ·subst h;rw[G9];have:(Df name es).length≤es.length:=List.length_filter_le _ _;omega
 rw[(Gb es name h).length_eq,List.length_cons];have:(Df name es).length≤es.length:=List.length_filter_le _ _;omega
theorem FlsB.set_{f:AZ}(hf:FlsB f){q:Nat}{d':Dvc}(hn:d'.nodes.length≤1000)(he:∀n∈d'.nodes,n.entries.length≤1000):FlsB (f.set q d'):=by
 refine⟨by simpa using hf.few,fun d hd=>?_,fun d hd n hn'=>?_⟩
 ·rcases List.mem_or_eq_of_mem_set hd with h|h
  ·exact hf.nodes d h
  rw[h];exact hn
 rcases List.mem_or_eq_of_mem_set hd with h|h
 ·exact hf.ents d h n hn'
 subst h;exact he n hn'
theorem FlsV.entS{f:AZ}(hv:FlsV f){q:Nat}{d:Dvc}(hq:f[q]?=some d){i:Nat}{n0:Nod}(hn:d.nodes[i]?=some n0)(name:AG)(ino:Int):FlsB (f.set q {d with nodes:=entS d.nodes i n0 name ino}):=by
 have hd:=hv.vd d (Ar hq);refine hv.b.set_ ?_ ?_
 ·show(Go.Proofs.YtbgnigjfkbmceaaGreatDoor.entS d.nodes i n0 name ino).length≤1000;rw[F4];have:=hd.len;omega
 intro m hm;rcases List.mem_or_eq_of_mem_set hm with h|h
 ·have:=hd.many m h;omega
 rw[h];have:=PN n0.entries name ino;have:=hd.many n0 (Ar hn);show(CL n0.entries name ino).length≤1000;omega
theorem Jn{d:Dvc}(hd:VD d){i:Nat}{n0:Nod}(hn:d.nodes[i]?=some n0)(name:AG)(ino:Int):entS d.nodes i n0 name ino=BV d.nodes n0.ino name ino:=by
 unfold entS BV;rw[←LJ hd.asc hn];rfl
theorem Sk{f:AZ}{a:AA}{q:Nat}{d:Dvc}(ha:a.1=(q:Int))(hq:f[q]?=some d):FP f a=if(d.nodes.any fun n=>n.ino==a.2)then BX a.2 d.nodes else 0:=by
 unfold FP Bk;rw[ha,J3,hq];simp only
 cases h:d.nodes.find? (fun n=>n.ino==a.2)with
 |none=>
   have:d.nodes.any (fun n=>n.ino==a.2)=false:=by
    rw[List.any_eq_false];exact List.find?_eq_none.1 h
   simp[this]
 |some n=>
   have:d.nodes.any (fun n=>n.ino==a.2)=true:=by
    have h2:=List.find?_some h;exact List.any_eq_true.2 ⟨n,List.mem_of_find?_eq_some h,h2⟩
   simp[this]
theorem Xr{f:AZ}{a:AA}{q:Nat}{d:Dvc}(ha:a.1=(q:Int))(hq:f[q]?=some d)(hl:0<FP f a):Br d.nodes a.2=d.nodes:=by
 rw[Sk ha hq]at hl;split at hl
 ·unfold Br;rw[List.filter_eq_self];intro m _;exact decide_eq_true (.inr hl)
 omega
theorem drop_zero{f:AZ}{a:AA}{q:Nat}{d:Dvc}(ha:a.1=(q:Int))(hq:f[q]?=some d)(hl:FP f a=0):Br d.nodes a.2=CU a.2 d.nodes:=by
 rw[Sk ha hq]at hl;unfold Br CU;apply List.filter_congr;intro m hm;split at hl
 ·rw[hl,Bool.eq_iff_iff];simp
 rename_i h
 have hne:m.ino≠a.2:=by
  intro e;exact h (List.any_eq_true.2 ⟨m,hm,by simpa using e⟩)
 rw[Bool.eq_iff_iff];simp[hne]
theorem PO{ns:List Nod}{m:Nod}{i:Int}(hm:m∈ns)(h:m.ino≠i):0<(CU i ns).length:=List.length_pos_of_mem (List.mem_filter.2 ⟨hm,by simpa using h⟩)
theorem Sl{d:Dvc}(hd:VD d){i:Nat}{n0:Nod}(hn:d.nodes[i]?=some n0)(name:AG)(ino:Int):∃m∈entS d.nodes i n0 name ino,m.ino=1:=by
 obtain⟨r,hr,h1,_⟩:=hd.rootMem;rw[Jn hd hn];obtain⟨m,hm,hw⟩:=Ha n0.ino name ino hr;exact⟨m,hm,hw.ino.trans h1⟩
theorem PP(f:AZ)(q:Nat)(d d':Dvc)(a:AA)(cap cap1:Nat)(hf:FlsB (f.set q d'))(hq:q<f.length)(ha:a.1=(q:Int))(hcap:f.length≤cap)(hcap1:d'.nodes.length≤cap1)(hne:0<(CU a.2 d'.nodes).length)(hn:d'.next=d.next)(hl:d'.nodes.length=d.nodes.length):
    ACall prog 234 [.agg [.bs 0 0 2 f.length cap], .agg (AD a)] [DB f q d 1 cap cap1,NB d'.nodes cap1] (fun r b t=>t=[]∧r= .tup []∧((Br d'.nodes a.2=d'.nodes∧b=[DB f q d 1 cap cap1,NB d'.nodes cap1,[.bs 0 0 2 f.length cap],AD a])∨(Br d'.nodes a.2=CU a.2 d'.nodes∧∃cap2,(CU a.2 d'.nodes).length≤cap2∧b=[DB f q {d' with nodes:=CU a.2 d'.nodes} 4 cap cap2,NB d'.nodes cap1,[.bs 0 0 2 f.length cap],AD a,NB (CU a.2 d'.nodes) cap2]))):=by
 have hq':(f.set q d')[q]?=some d':=by simp[hq]
 have key:=Xe (f.set q d') q d' a cap cap1 hf hq' ha (by simpa using hcap) hcap1 hne;rw[List.length_set,←Sj hn hl]at key;refine key.mono fun r b t ⟨h1,h2,h3⟩=>⟨h1,h2,?_⟩;rcases h3 with⟨h4,h5⟩|⟨h4,cap2,h5,h6⟩
 ·exact .inl ⟨Xr ha hq' h4,h5⟩
 refine .inr ⟨drop_zero ha hq' h4,cap2,h5,?_⟩;rw[Ow]at h6;exact h6
def Fi(f:AZ)(dir:AA)(name:AG):J5:=
 if CB f dir name≠0 then([],[],CB f dir name)else if(AO f dir name).2≠0 then([],[],(AO f dir name).2)else if Am f (AO f dir name).1=true then([],[],21)else
 (GB f dir.1.toNat fun ns=>Br (BV ns dir.2 name 0) (AO f dir name).1.2,[(dir,name,(AO f dir name).1,(0,0))],0)
def F5(f:AZ)(dir:AA)(name:AG):J5:=
 if CB f dir name≠0 then([],[],CB f dir name)else if(AO f dir name).2≠0 then([],[],(AO f dir name).2)else if Am f (AO f dir name).1=false then([],[],20)else if Gx f (AO f dir name).1=false then([],[],39)else
 (GB f dir.1.toNat fun ns=>Br (BV ns dir.2 name 0) (AO f dir name).1.2,[(dir,name,(AO f dir name).1,(0,0))],0)
section
theorem Xs(f:AZ)(dir:AA)(name:AG)(hv:FlsV f)(hs:name.size≤100000):AFn prog 173 [.agg (Aq f), .agg (AD dir), .v (.string name)] (fun r=>r=CO (Fi f dir name)):=by
 have hf:=hv.b;refine enter Tryz.func173 rfl rfl rfl rfl rfl 0 rfl ?_;refine w_ (b_ (h:=b_ (h:=Ac (h:=a_ (h:=a_ (h:=e_ (q_ (w_ (l_ (h:=l_ (h:=m_ (h:=?_))))))))))));refine A6 rfl (AJ (Ja f dir name hf hs) ?_);rintro r rfl;refine a_ (h:=e_ (w_ (m_ (h:=Ao (h:=e_ (?_))))));refine A9 rfl (fun hb1=>?_) (fun hb1=>?_)
 ·have hc1:=bp hb1;refine w_ (Ab (h:=m_ (h:=s_ (h:=a_ (h:=a_ (h:=e_ (A4 (A7 (?_)))))))));refine Au (r:=CO (Fi f dir name)) none (h5:=?_) (h6:=⟨rfl,rfl,rfl⟩);rw[Fi,if_pos (by omega)];exact Cu _
 have hc1:=bp hb1;refine AE (w_ (l_ (h:=l_ (h:=m_ (h:=?_)))));refine A6 rfl (AJ (H3 f dir name hf) ?_);rintro r rfl;refine m_ (h:=x_ (h:=x_ (h:=Ac (h:=s_ (h:=a_ (h:=e_ (q_ (w_ (m_ (h:=Ao (h:=e_ (?_))))))))))));refine A9 rfl (fun hb2=>?_) (fun hb2=>?_)
 ·have hc2:=bp hb2;refine w_ (Ab (h:=m_ (h:=s_ (h:=a_ (h:=a_ (h:=e_ (A4 (A7 (?_)))))))));refine Au (r:=CO (Fi f dir name)) none (h5:=?_) (h6:=⟨rfl,rfl,rfl⟩);rw[Fi,if_neg (by omega),if_pos (by omega)];exact Cu _
 have hc2:=bp hb2;have hlk:(AO f dir name).2=0:=by omega
 refine AE (q_ (w_ (l_ (h:=l_ (h:=?_)))));refine A6 rfl (AJ (GS f (AO f dir name).1 hf) ?_);rintro r rfl;refine e_ (?_);refine A9 rfl (fun hb3=>?_) (fun hb3=>?_)
 ·have hc3:=bp hb3;refine w_ (Ab (h:=s_ (h:=a_ (h:=a_ (h:=e_ (A4 (A7 (?_))))))));refine Au (r:=CO (Fi f dir name)) none (h5:=?_) (h6:=⟨rfl,rfl,rfl⟩);rw[Fi,if_neg (by omega),if_neg (by omega),if_pos hc3];exact Cu _
 have hc3:=bp hb3;obtain⟨q,i,d,n0,hdq,hq,hn0,hino,hidx,hnode,hk0,hnm⟩:=FV (name:=name) (dir:=dir) (f:=f) (by omega);have hil:=(Ah.1 hn0).1;have hql:=(Ah.1 hq).1;have hvd:=hv.vd d (Ar hq);obtain⟨e,he,hle⟩:=LK hnode hk0 hlk;have hat1:(AO f dir name).1.1=(q:Int):=by rw[hle];exact hdq
 have hat2:(AO f dir name).1.2≠1:=by rw[hle];exact(hvd.ent n0 (Ar hn0) e (Fg he).1).2.1
 have hxl:(entS d.nodes i n0 name 0).length=d.nodes.length:=F4 _ _ _ _ _
 have hkp:0<(CU (AO f dir name).1.2 (entS d.nodes i n0 name 0)).length:=by
  obtain⟨m,hm,hm1⟩:=Sl hvd hn0 name 0;exact PO hm (by rw[hm1];exact hat2.symm)
 refine AE (w_ (l_ (h:=?_)));refine A6 rfl (EB [] rfl (.cons _ _ _ _ _ rfl (AX _) .nil) (by decide) .nil (Jh f q d hf hq (by omega)) ?_);rintro r bc tc ⟨rfl,cap,cap1,hcap,hcap1,rfl,rfl⟩;refine⟨rfl,_,(Jl (n:=4) rfl f q d d.nodes cap cap1:Back _ [] _ [_,_,_,_,_,_]),?_⟩;refine Ac (h:=s_ (h:=e_ (w_ (l_ (h:=l_ (h:=m_ (h:=?_)))))));refine A6 rfl (EB [4,5] rfl (.cons _ _ _ _ _ rfl (AX _) (.cons _ _ _ _ _ rfl (AX _) (.cons _ _ _ _ _ rfl (AX _) (.cons _ _ _ _ _ rfl (AX _) .nil)))) (by decide) (.cons _ _ _ _ _ rfl (F1 (by rfl) _ _ _ _ _) (.cons _ _ _ _ _ rfl (Eh _ _ _) .nil)) (L5 f q d n0 i dir name 0 cap cap1 hf hq hdq hidx hn0 hcap hcap1) ?_);rintro r bc tc ⟨rfl,rfl,rfl⟩;refine⟨rfl,_,(Jm (B8 rfl) (B8 rfl) (by decide) f q d (entS d.nodes i n0 name 0) cap cap1 cap1:Back _ [4,5] _ [_,_,_,_,_,_,_]),?_⟩;refine e_ (w_ (l_ (h:=l_ (h:=?_))));refine A6 rfl (EB [4,5] rfl (.cons _ _ _ _ _ rfl (AX _) (.cons _ _ _ _ _ rfl (AX _) .nil)) (by decide) (.cons _ _ _ _ _ rfl (F1 (by rfl) _ _ _ _ _) (.cons _ _ _ _ _ rfl (Eh _ _ _) .nil)) (PP f q d {d with nodes:=entS d.nodes i n0 name 0} (AO f dir name).1 cap cap1 (hv.entS hq hn0 name 0) hql hat1 hcap (by rw[F4];exact hcap1) hkp rfl hxl) ?_);rintro r bc tc ⟨rfl,rfl,⟨hns,rfl⟩|⟨hns,cap2,hcap2,rfl⟩⟩
 ·refine⟨rfl,_,(PM (n:=7) rfl (by decide) (by decide) (by decide) f q d (entS d.nodes i n0 name 0) (AO f dir name).1 f.length cap cap cap1 cap1:Back _ [4,5] _ [_,_,_,_,_,_,_,_,_]),?_⟩;have hx1:(entS d.nodes i n0 name 0).length≤cap1:=by omega
  refine e_ (?_);refine CA (fun t=>t=⟨look [(6, .bp 2 0),(7, .sl 7 [E3 (dir,name,(AO f dir name).1,(0,0))] none),(8, .v (.int .i64 0))],⟨[Aq f,AD dir,Aq (f.set q {d with nodes:=Br (entS d.nodes i n0 name 0) (AO f dir name).1.2})],[]⟩⟩) ?_ ?_
  ·skip
   refine CE ([(0,Aq f),(1,AD dir),(3,AD (AO f dir name).1),(6,[.bs 4 0 2 f.length cap])]) 9 (h:=AY 0 (h:=AY 1 (h:=Ap 2 (h:=AY 3 (h:=?_)))));refine BK 4 rfl (fun _ hS=>Fz (y:= .agg (AD (0,0))) (E0 ⟨rfl,rfl⟩) (by repeat (first|exact AX _|exact LeA.nil _|exact LeL.refl _|refine LeA.agg ⟨rfl,rfl⟩|refine LeA.tup ⟨rfl,rfl⟩|exact LeL.nil|refine LeL.cons ⟨rfl,rfl⟩ ⟨rfl,rfl⟩|exact LeA.any _)) ⟨rfl,rfl⟩) ?_;refine c_ 5 rfl (AJ (J8 dir name (AO f dir name).1 (0,0)) ?_);rintro r rfl;refine o_ (h:=?_);refine Bm 6 rfl (Bd rfl rfl rfl rfl rfl rfl (by repeat constructor) (by repeat constructor) ?_);refine o_ (h:=BN 7 (h:=BN 8 (h:=z_ (h:=?_))));refine AK ?_;refine⟨_,rfl,?_⟩;rw[show Br (entS d.nodes i n0 name 0) (AO f dir name).1.2=_ from hns]
   first|exact Ew 3 2 rfl (congrArg (fun x=>[Aq f,AD dir,x]) (FT (k:=0) (i:=4) (j:=9) (d:={d with nodes:=CU (AO f dir name).1.2 (entS d.nodes i n0 name 0)}) (d':={d with nodes:=CU (AO f dir name).1.2 (entS d.nodes i n0 name 0)}) hql rfl rfl hcap hcap2 (B8 rfl) (B8 rfl) rfl rfl)) (.cons _ _ _ _ rfl (AX _) (.cons _ _ _ _ rfl (AX _) (.cons _ _ _ _ rfl (AX _) .nil)))|exact Ew 3 2 rfl (congrArg (fun x=>[Aq f,AD dir,x]) (FT (k:=0) (i:=4) (j:=5) (d:=d) (d':={d with nodes:=entS d.nodes i n0 name 0}) hql rfl hxl hcap hx1 (B8 rfl) (B8 rfl) rfl rfl)) (.cons _ _ _ _ rfl (AX _) (.cons _ _ _ _ rfl (AX _) (.cons _ _ _ _ rfl (AX _) .nil)))
  rintro t rfl;refine A4 (?_);refine A8 ?_;rw[Fi,if_neg (by omega),if_neg (by omega),if_neg (by simp[hc3]),hdq,Int.toNat_natCast,FU hq,←hino,←Jn (hv.vd d (Ar hq)) hn0];rfl
 refine⟨rfl,_,(PL (n:=7) rfl (by decide) (by decide) (by decide) f q {d with nodes:=CU (AO f dir name).1.2 (entS d.nodes i n0 name 0)} (entS d.nodes i n0 name 0) (CU (AO f dir name).1.2 (entS d.nodes i n0 name 0)) (AO f dir name).1 f.length cap cap cap1 cap2:Back _ [4,5] _ [_,_,_,_,_,_,_,_,_,_]),?_⟩;refine e_ (?_);refine CA (fun t=>t=⟨look [(6, .bp 2 0),(7, .sl 7 [E3 (dir,name,(AO f dir name).1,(0,0))] none),(8, .v (.int .i64 0))],⟨[Aq f,AD dir,Aq (f.set q {d with nodes:=Br (entS d.nodes i n0 name 0) (AO f dir name).1.2})],[]⟩⟩) ?_ ?_
 ·skip
  refine CE ([(0,Aq f),(1,AD dir),(3,AD (AO f dir name).1),(6,[.bs 4 0 2 f.length cap])]) 9 (h:=AY 0 (h:=AY 1 (h:=Ap 2 (h:=AY 3 (h:=?_)))));refine BK 4 rfl (fun _ hS=>Fz (y:= .agg (AD (0,0))) (E0 ⟨rfl,rfl⟩) (by repeat (first|exact AX _|exact LeA.nil _|exact LeL.refl _|refine LeA.agg ⟨rfl,rfl⟩|refine LeA.tup ⟨rfl,rfl⟩|exact LeL.nil|refine LeL.cons ⟨rfl,rfl⟩ ⟨rfl,rfl⟩|exact LeA.any _)) ⟨rfl,rfl⟩) ?_;refine c_ 5 rfl (AJ (J8 dir name (AO f dir name).1 (0,0)) ?_);rintro r rfl;refine o_ (h:=?_);refine Bm 6 rfl (Bd rfl rfl rfl rfl rfl rfl (by repeat constructor) (by repeat constructor) ?_);refine o_ (h:=BN 7 (h:=BN 8 (h:=z_ (h:=?_))));refine AK ?_;refine⟨_,rfl,?_⟩;rw[show Br (entS d.nodes i n0 name 0) (AO f dir name).1.2=_ from hns]
  first|exact Ew 3 2 rfl (congrArg (fun x=>[Aq f,AD dir,x]) (FT (k:=0) (i:=4) (j:=9) (d:={d with nodes:=CU (AO f dir name).1.2 (entS d.nodes i n0 name 0)}) (d':={d with nodes:=CU (AO f dir name).1.2 (entS d.nodes i n0 name 0)}) hql rfl rfl hcap hcap2 (B8 rfl) (B8 rfl) rfl rfl)) (.cons _ _ _ _ rfl (AX _) (.cons _ _ _ _ rfl (AX _) (.cons _ _ _ _ rfl (AX _) .nil)))|exact Ew 3 2 rfl (congrArg (fun x=>[Aq f,AD dir,x]) (FT (k:=0) (i:=4) (j:=5) (d:=d) (d':={d with nodes:=entS d.nodes i n0 name 0}) hql rfl hxl hcap hx1 (B8 rfl) (B8 rfl) rfl rfl)) (.cons _ _ _ _ rfl (AX _) (.cons _ _ _ _ rfl (AX _) (.cons _ _ _ _ rfl (AX _) .nil)))
 rintro t rfl;refine A4 (?_);refine A8 ?_;rw[Fi,if_neg (by omega),if_neg (by omega),if_neg (by simp[hc3]),hdq,Int.toNat_natCast,FU hq,←hino,←Jn (hv.vd d (Ar hq)) hn0];rfl
theorem Xt(f:AZ)(dir:AA)(name:AG)(hv:FlsV f)(hs:name.size≤100000):AFn prog 174 [.agg (Aq f), .agg (AD dir), .v (.string name)] (fun r=>r=CO (F5 f dir name)):=by
 have hf:=hv.b;refine enter Tryz.func174 rfl rfl rfl rfl rfl 0 rfl ?_;refine w_ (b_ (h:=b_ (h:=Ac (h:=a_ (h:=a_ (h:=e_ (q_ (w_ (l_ (h:=l_ (h:=m_ (h:=?_))))))))))));refine A6 rfl (AJ (Ja f dir name hf hs) ?_);rintro r rfl;refine a_ (h:=e_ (w_ (m_ (h:=Ao (h:=e_ (?_))))));refine A9 rfl (fun hb1=>?_) (fun hb1=>?_)
 ·have hc1:=bp hb1;refine w_ (Ab (h:=m_ (h:=s_ (h:=a_ (h:=a_ (h:=e_ (A4 (A7 (?_)))))))));refine Au (r:=CO (F5 f dir name)) none (h5:=?_) (h6:=⟨rfl,rfl,rfl⟩);rw[F5,if_pos (by omega)];exact Cu _
 have hc1:=bp hb1;refine AE (w_ (l_ (h:=l_ (h:=m_ (h:=?_)))));refine A6 rfl (AJ (H3 f dir name hf) ?_);rintro r rfl;refine m_ (h:=x_ (h:=x_ (h:=Ac (h:=s_ (h:=a_ (h:=e_ (q_ (w_ (m_ (h:=Ao (h:=e_ (?_))))))))))));refine A9 rfl (fun hb2=>?_) (fun hb2=>?_)
 ·have hc2:=bp hb2;refine w_ (Ab (h:=m_ (h:=s_ (h:=a_ (h:=a_ (h:=e_ (A4 (A7 (?_)))))))));refine Au (r:=CO (F5 f dir name)) none (h5:=?_) (h6:=⟨rfl,rfl,rfl⟩);rw[F5,if_neg (by omega),if_pos (by omega)];exact Cu _
 have hc2:=bp hb2;have hlk:(AO f dir name).2=0:=by omega
 refine AE (q_ (w_ (l_ (h:=l_ (h:=?_)))));refine A6 rfl (AJ (GS f (AO f dir name).1 hf) ?_);rintro r rfl;refine BB (h:=e_ (?_));refine A9 rfl (fun hb3=>?_) (fun hb3=>?_)
 ·have hc3:=bp hb3;refine w_ (Ab (h:=s_ (h:=a_ (h:=a_ (h:=e_ (A4 (A7 (?_))))))));refine Au (r:=CO (F5 f dir name)) none (h5:=?_) (h6:=⟨rfl,rfl,rfl⟩);rw[F5,if_neg (by omega),if_neg (by omega),if_pos hc3];exact Cu _
 have hc3:=bp hb3;refine AE (q_ (w_ (l_ (h:=l_ (h:=?_)))));refine A6 rfl (AJ (Rb f (AO f dir name).1 hf) ?_);rintro r rfl;refine BB (h:=e_ (?_));refine A9 rfl (fun hb4=>?_) (fun hb4=>?_)
 ·have hc4:=bp hb4;refine w_ (Ab (h:=s_ (h:=a_ (h:=a_ (h:=e_ (A4 (A7 (?_))))))));refine Au (r:=CO (F5 f dir name)) none (h5:=?_) (h6:=⟨rfl,rfl,rfl⟩);rw[F5,if_neg (by omega),if_neg (by omega),if_neg (by simp[hc3]),if_pos hc4];exact Cu _
 have hc4:=bp hb4;obtain⟨q,i,d,n0,hdq,hq,hn0,hino,hidx,hnode,hk0,hnm⟩:=FV (name:=name) (dir:=dir) (f:=f) (by omega);have hil:=(Ah.1 hn0).1;have hql:=(Ah.1 hq).1;have hvd:=hv.vd d (Ar hq);obtain⟨e,he,hle⟩:=LK hnode hk0 hlk;have hat1:(AO f dir name).1.1=(q:Int):=by rw[hle];exact hdq
 have hat2:(AO f dir name).1.2≠1:=by rw[hle];exact(hvd.ent n0 (Ar hn0) e (Fg he).1).2.1
 have hxl:(entS d.nodes i n0 name 0).length=d.nodes.length:=F4 _ _ _ _ _
 have hkp:0<(CU (AO f dir name).1.2 (entS d.nodes i n0 name 0)).length:=by
  obtain⟨m,hm,hm1⟩:=Sl hvd hn0 name 0;exact PO hm (by rw[hm1];exact hat2.symm)
 refine AE (w_ (l_ (h:=?_)));refine A6 rfl (EB [] rfl (.cons _ _ _ _ _ rfl (AX _) .nil) (by decide) .nil (Jh f q d hf hq (by omega)) ?_);rintro r bc tc ⟨rfl,cap,cap1,hcap,hcap1,rfl,rfl⟩;refine⟨rfl,_,(Jl (n:=4) rfl f q d d.nodes cap cap1:Back _ [] _ [_,_,_,_,_,_]),?_⟩;refine Ac (h:=s_ (h:=e_ (w_ (l_ (h:=l_ (h:=m_ (h:=?_)))))));refine A6 rfl (EB [4,5] rfl (.cons _ _ _ _ _ rfl (AX _) (.cons _ _ _ _ _ rfl (AX _) (.cons _ _ _ _ _ rfl (AX _) (.cons _ _ _ _ _ rfl (AX _) .nil)))) (by decide) (.cons _ _ _ _ _ rfl (F1 (by rfl) _ _ _ _ _) (.cons _ _ _ _ _ rfl (Eh _ _ _) .nil)) (L5 f q d n0 i dir name 0 cap cap1 hf hq hdq hidx hn0 hcap hcap1) ?_);rintro r bc tc ⟨rfl,rfl,rfl⟩;refine⟨rfl,_,(Jm (B8 rfl) (B8 rfl) (by decide) f q d (entS d.nodes i n0 name 0) cap cap1 cap1:Back _ [4,5] _ [_,_,_,_,_,_,_]),?_⟩;refine e_ (w_ (l_ (h:=l_ (h:=?_))));refine A6 rfl (EB [4,5] rfl (.cons _ _ _ _ _ rfl (AX _) (.cons _ _ _ _ _ rfl (AX _) .nil)) (by decide) (.cons _ _ _ _ _ rfl (F1 (by rfl) _ _ _ _ _) (.cons _ _ _ _ _ rfl (Eh _ _ _) .nil)) (PP f q d {d with nodes:=entS d.nodes i n0 name 0} (AO f dir name).1 cap cap1 (hv.entS hq hn0 name 0) hql hat1 hcap (by rw[F4];exact hcap1) hkp rfl hxl) ?_);rintro r bc tc ⟨rfl,rfl,⟨hns,rfl⟩|⟨hns,cap2,hcap2,rfl⟩⟩
 ·refine⟨rfl,_,(PM (n:=7) rfl (by decide) (by decide) (by decide) f q d (entS d.nodes i n0 name 0) (AO f dir name).1 f.length cap cap cap1 cap1:Back _ [4,5] _ [_,_,_,_,_,_,_,_,_]),?_⟩;have hx1:(entS d.nodes i n0 name 0).length≤cap1:=by omega
  refine e_ (?_);refine CA (fun t=>t=⟨look [(6, .bp 2 0),(7, .sl 7 [E3 (dir,name,(AO f dir name).1,(0,0))] none),(8, .v (.int .i64 0))],⟨[Aq f,AD dir,Aq (f.set q {d with nodes:=Br (entS d.nodes i n0 name 0) (AO f dir name).1.2})],[]⟩⟩) ?_ ?_
  ·skip
   refine CE ([(0,Aq f),(1,AD dir),(3,AD (AO f dir name).1),(6,[.bs 4 0 2 f.length cap])]) 9 (h:=AY 0 (h:=AY 1 (h:=Ap 2 (h:=AY 3 (h:=?_)))));refine BK 4 rfl (fun _ hS=>Fz (y:= .agg (AD (0,0))) (E0 ⟨rfl,rfl⟩) (by repeat (first|exact AX _|exact LeA.nil _|exact LeL.refl _|refine LeA.agg ⟨rfl,rfl⟩|refine LeA.tup ⟨rfl,rfl⟩|exact LeL.nil|refine LeL.cons ⟨rfl,rfl⟩ ⟨rfl,rfl⟩|exact LeA.any _)) ⟨rfl,rfl⟩) ?_;refine c_ 5 rfl (AJ (J8 dir name (AO f dir name).1 (0,0)) ?_);rintro r rfl;refine o_ (h:=?_);refine Bm 6 rfl (Bd rfl rfl rfl rfl rfl rfl (by repeat constructor) (by repeat constructor) ?_);refine o_ (h:=BN 7 (h:=BN 8 (h:=z_ (h:=?_))));refine AK ?_;refine⟨_,rfl,?_⟩;rw[show Br (entS d.nodes i n0 name 0) (AO f dir name).1.2=_ from hns]
   first|exact Ew 3 2 rfl (congrArg (fun x=>[Aq f,AD dir,x]) (FT (k:=0) (i:=4) (j:=9) (d:={d with nodes:=CU (AO f dir name).1.2 (entS d.nodes i n0 name 0)}) (d':={d with nodes:=CU (AO f dir name).1.2 (entS d.nodes i n0 name 0)}) hql rfl rfl hcap hcap2 (B8 rfl) (B8 rfl) rfl rfl)) (.cons _ _ _ _ rfl (AX _) (.cons _ _ _ _ rfl (AX _) (.cons _ _ _ _ rfl (AX _) .nil)))|exact Ew 3 2 rfl (congrArg (fun x=>[Aq f,AD dir,x]) (FT (k:=0) (i:=4) (j:=5) (d:=d) (d':={d with nodes:=entS d.nodes i n0 name 0}) hql rfl hxl hcap hx1 (B8 rfl) (B8 rfl) rfl rfl)) (.cons _ _ _ _ rfl (AX _) (.cons _ _ _ _ rfl (AX _) (.cons _ _ _ _ rfl (AX _) .nil)))
  rintro t rfl;refine A4 (?_);refine A8 ?_;rw[F5,if_neg (by omega),if_neg (by omega),if_neg (by simp[hc3]),if_neg (by simp[hc4]),hdq,Int.toNat_natCast,FU hq,←hino,←Jn (hv.vd d (Ar hq)) hn0];rfl
 refine⟨rfl,_,(PL (n:=7) rfl (by decide) (by decide) (by decide) f q {d with nodes:=CU (AO f dir name).1.2 (entS d.nodes i n0 name 0)} (entS d.nodes i n0 name 0) (CU (AO f dir name).1.2 (entS d.nodes i n0 name 0)) (AO f dir name).1 f.length cap cap cap1 cap2:Back _ [4,5] _ [_,_,_,_,_,_,_,_,_,_]),?_⟩;refine e_ (?_);refine CA (fun t=>t=⟨look [(6, .bp 2 0),(7, .sl 7 [E3 (dir,name,(AO f dir name).1,(0,0))] none),(8, .v (.int .i64 0))],⟨[Aq f,AD dir,Aq (f.set q {d with nodes:=Br (entS d.nodes i n0 name 0) (AO f dir name).1.2})],[]⟩⟩) ?_ ?_
 ·skip
  refine CE ([(0,Aq f),(1,AD dir),(3,AD (AO f dir name).1),(6,[.bs 4 0 2 f.length cap])]) 9 (h:=AY 0 (h:=AY 1 (h:=Ap 2 (h:=AY 3 (h:=?_)))));refine BK 4 rfl (fun _ hS=>Fz (y:= .agg (AD (0,0))) (E0 ⟨rfl,rfl⟩) (by repeat (first|exact AX _|exact LeA.nil _|exact LeL.refl _|refine LeA.agg ⟨rfl,rfl⟩|refine LeA.tup ⟨rfl,rfl⟩|exact LeL.nil|refine LeL.cons ⟨rfl,rfl⟩ ⟨rfl,rfl⟩|exact LeA.any _)) ⟨rfl,rfl⟩) ?_;refine c_ 5 rfl (AJ (J8 dir name (AO f dir name).1 (0,0)) ?_);rintro r rfl;refine o_ (h:=?_);refine Bm 6 rfl (Bd rfl rfl rfl rfl rfl rfl (by repeat constructor) (by repeat constructor) ?_);refine o_ (h:=BN 7 (h:=BN 8 (h:=z_ (h:=?_))));refine AK ?_;refine⟨_,rfl,?_⟩;rw[show Br (entS d.nodes i n0 name 0) (AO f dir name).1.2=_ from hns]
  first|exact Ew 3 2 rfl (congrArg (fun x=>[Aq f,AD dir,x]) (FT (k:=0) (i:=4) (j:=9) (d:={d with nodes:=CU (AO f dir name).1.2 (entS d.nodes i n0 name 0)}) (d':={d with nodes:=CU (AO f dir name).1.2 (entS d.nodes i n0 name 0)}) hql rfl rfl hcap hcap2 (B8 rfl) (B8 rfl) rfl rfl)) (.cons _ _ _ _ rfl (AX _) (.cons _ _ _ _ rfl (AX _) (.cons _ _ _ _ rfl (AX _) .nil)))|exact Ew 3 2 rfl (congrArg (fun x=>[Aq f,AD dir,x]) (FT (k:=0) (i:=4) (j:=5) (d:=d) (d':={d with nodes:=entS d.nodes i n0 name 0}) hql rfl hxl hcap hx1 (B8 rfl) (B8 rfl) rfl rfl)) (.cons _ _ _ _ rfl (AX _) (.cons _ _ _ _ rfl (AX _) (.cons _ _ _ _ rfl (AX _) .nil)))
 rintro t rfl;refine A4 (?_);refine A8 ?_;rw[F5,if_neg (by omega),if_neg (by omega),if_neg (by simp[hc3]),if_neg (by simp[hc4]),hdq,Int.toNat_natCast,FU hq,←hino,←Jn (hv.vd d (Ar hq)) hn0];rfl
end
section
variable {P:Program}{N:Dim}{ops:Array Oper}{Q:Exit→AS→Prop}{S:AH→Prop}{tl:Nat}
def Sm(ops:Array Oper)(tl:Nat):Bool:=Lm ops tl
end
section
variable {P:Program}{N:Dim}{Q:Exit→AS→Prop}{l:List Oper}{S:AH→Prop}{tl:Nat}{fuel:Nat}{listed:Array Bool}{m:List (Nat×AV)}{h:AH}{op:Op}{ty:TypeId}{pos:String}{af:Array Edge}{gd:Option (Nat×Bool)}
theorem Xu{i d:Nat}{x:AV}(hi:l[i]?=some ⟨some d,op,ty,pos,af,gd⟩)(hd:Nat.blt d N.n=true)(htl:(Sm l.toArray tl&&Ll l.toArray listed&& !Nat.ble tl i&&Region.free .any l.toArray listed i&&(Region.ready .any l.toArray listed).contains i)=true)
    (hw:C9 l.toArray (look m) ⟨some d,op,ty,pos,af,gd⟩=some true) (hst:∀h,S h→AStep P ⟨some d,op,ty,pos,af,gd⟩ (Bz (look m)) h (fun x' h'=>x'=x∧h'=h)) (hS:S h)
    (H:AAny P N l.toArray Q S tl fuel (listed.setIfInBounds i true) ⟨look ((d,x)::m),h⟩):AAny P N l.toArray Q S tl (fuel+1) listed ⟨look m,h⟩:=by
 simp only[Bool.and_eq_true,Bool.not_eq_true']at htl;obtain⟨⟨⟨⟨t1,t0⟩,t2⟩,t3⟩,t4⟩:=htl;exact AAny.first3 (oi:=⟨some d,op,ty,pos,af,gd⟩) (Fr hi) hd t1 t2 fuel listed ⟨look m,h⟩ (QK t0) (Region.free_spec (Fr hi) t3) (List.contains_iff_mem.1 t4) (.inl ⟨hw,hst⟩) hS H
end
theorem DN{P:Program}{N:Dim}{Q:Exit→AS→Prop}{l:List Oper}{S:AH→Prop}{tl:Nat}{fuel:Nat}{listed:Array Bool}{m:List (Nat×AV)}{h:AH}{op:Op}{ty:TypeId}{pos:String}{af:Array Edge}{gd:Option (Nat×Bool)}(i:Nat){d:Nat}{x:AV}(hi:l[i]?=some ⟨some d,op,ty,pos,af,gd⟩)(hst:∀h,S h→AStep P ⟨some d,op,ty,pos,af,gd⟩ (Bz (look m)) h (fun x' h'=>x'=x∧h'=h))(H:AAny P N l.toArray Q S tl fuel (listed.setIfInBounds i true) ⟨look ((d,x)::m),h⟩)(hd:Nat.blt d N.n=true:=by rfl)(htl:(Sm l.toArray tl&&Ll l.toArray listed&& !Nat.ble tl i&&Region.free .any l.toArray listed i&&(Region.ready .any l.toArray listed).contains i)=true:=by kernel_rfl)(hw:C9 l.toArray (look m) ⟨some d,op,ty,pos,af,gd⟩=some true:=by first|rfl|exact AM rfl rfl (B9 ‹_›)|exact AM rfl rfl (BA ‹_›)|exact AM rfl rfl (by simp[*]))(hS:S h:=by repeat (first|exact Kd _|refine Ke rfl ?_)):AAny P N l.toArray Q S tl (fuel+1) listed ⟨look m,h⟩:=Xu hi hd htl hw hst hS H
theorem PQ{f:AZ}{a:AA}{q i:Nat}{d:Dvc}{n:Nod}(ha:a.1=(q:Int))(hq:f[q]?=some d)(hd:DM d.nodes)(hn:d.nodes[i]?=some n)(hi:n.ino=a.2):ED f a=(i:Int):=by
 rw[OP ha hq];refine RK hn (by simpa using hi) fun j y hj hy=>?_;obtain⟨l1,e1⟩:=Ah.1 hn;obtain⟨l2,e2⟩:=Ah.1 hy;have hp:=List.pairwise_iff_getElem.1 hd j i l2 l1 hj;rw[e1,e2]at hp;have:y.ino≠a.2:=by omega
 simpa using this
theorem Sn(f:AZ)(q:Nat)(d':Dvc)(n:Nod)(i:Nat)(a:AA)(name:AG)(ino:Int)(cap cap1:Nat)(hf:FlsB (f.set q d'))(hq:q<f.length)(ha:a.1=(q:Int))(hi:ED (f.set q d') a=(i:Int))(hn:d'.nodes[i]?=some n)(hcap:f.length≤cap)(hcap1:d'.nodes.length≤cap1):
    ACall prog 232 [.agg [.bs 0 0 2 f.length cap], .agg (AD a), .v (.string name), .v (.int .i64 ino)] [DB f q d' 1 cap cap1,NB d'.nodes cap1] (fun r b t=>t=[]∧r= .tup []∧b=[DB f q d' 1 cap cap1,NB (entS d'.nodes i n name ino) cap1]):=by
 have key:=L5 (f.set q d') q d' n i a name ino cap cap1 hf (by simp[hq]) ha hi hn (by simpa using hcap) hcap1;rw[List.length_set,Ow]at key;exact key
def GC(f:AZ)(a:AA)(mode uid gid:Int):AZ×Int:=
 if Cg f a=false then([],2)else if E1 (Dt mode uid gid (As f a))=false then([],22)else(GB f a.1.toNat fun ns=>CN ns a.2 (Dt mode uid gid),0)
def Mx(R:AZ×Int):AV:= .tup [.agg (Aq R.1), .v (.int .i64 R.2)]
theorem So(e:Int):LeA (.tup [.agg [.v (.slice none 0 0)], .v (.int .i64 e)]) (Mx ([],e)):=(by repeat (first|exact AX _|exact LeA.nil _|exact LeL.refl _|refine LeA.agg ?_|refine LeA.tup ?_|exact LeL.nil|refine LeL.cons ?_ ?_|exact LeA.any _))
theorem Xv{n:Nod}(h:E1 n=true):n.target.size≤128:=by
 unfold E1 at h;split at h
 ·cases h
 split at h
 ·simp[J4]at h;omega
 have h2:=List.isEmpty_iff.1 h;rw[ByteArray.toList_eq]at h2;have:n.target.data.size=0:=by rw[←Array.length_toList,h2];rfl
 show n.target.data.size≤128;omega
theorem LL{f:AZ}(hv:FlsV f)(a:AA):(As f a).target.size≤128:=by
 rcases GP f a with⟨-,h⟩|⟨k,i,d,n, -,h1,h2, -, -,h⟩
 ·simp only[As,h,Option.getD_none];exact BU _
 simp only[As,h,Option.getD_some];exact Xv ((hv.vd d (Ar h1)).plain n (Ar h2))
def EU(f:AZ)(dir:AA)(name:AG)(n:Nod):J5:=
 if CB f dir name≠0 then([],[],CB f dir name)else if E1 n=false then([],[],22)else if(AO f dir name).2=0 then([],[],17)else
 match Ey f dir.1 with
 |none=>([],[],2)
 |some d=>if 16≤d.nodes.length∨d.next=1073741824∨GR f dir=true then([],[],28)else(f.set dir.1.toNat ⟨d.next+1,BV d.nodes dir.2 name d.next++[Dk n d.next dir.2]⟩,[(dir,name,(0,0),(dir.1,d.next))],0)
theorem Sq{f:AZ}{q:Nat}{d:Dvc}{j j' cap cap1 c:Nat}(m:Nod)(hq:q<f.length):SetAt (DB f q d j cap cap1) (0+q * 2+1) [.bs j' 0 8 (d.nodes.length+1) c] (DB f q {d with nodes:=d.nodes++[m]} j' cap c):=by
 have h:=Ov (d:=d) (d':={d with nodes:=d.nodes++[m]}) (j:=j) (j':=j') (cap:=cap) (cap1:=cap1) (cap1':=c) (k:=1) (cs:=[.bs j' 0 8 (d.nodes++[m]).length c]) hq (by repeat constructor) (by simp)
 rwa [List.length_append]at h
section
theorem Xw(f:AZ)(a:AA)(mode uid gid:Int)(hv:FlsV f):AFn prog 176 [.agg (Aq f), .agg (AD a), .v (.int .i64 mode), .v (.int .i64 uid), .v (.int .i64 gid)] (fun r=>r=Mx (GC f a mode uid gid)):=by
 have hf:=hv.b;have htg:=LL hv a;refine enter Tryz.func176 rfl rfl rfl rfl rfl 0 rfl ?_;refine w_ (b_ (h:=b_ (h:=Ac (h:=a_ (h:=e_ (w_ (l_ (h:=l_ (h:=?_)))))))));refine A6 rfl (AJ (Ed f a hf) ?_);rintro r rfl;refine m_ (h:=x_ (h:=x_ (h:=Ac (h:=s_ (h:=a_ (h:=e_ (q_ (w_ (m_ (h:=BB (h:=e_ (?_))))))))))));refine A9 rfl (fun hb1=>?_) (fun hb1=>?_)
 ·have hc1:=bp hb1;refine w_ (Ab (h:=s_ (h:=a_ (h:=e_ (A4 (A7 (?_)))))));refine Au (r:=Mx (GC f a mode uid gid)) none (h5:=?_) (h6:=⟨rfl,rfl,rfl⟩);rw[GC,if_pos hc1];exact So _
 have hc1:=bp hb1;refine AE (w_ (m_ (h:=m_ (h:=m_ (h:=f_ (h:=s_ (h:=f_ (h:=s_ (h:=f_ (h:=s_ (h:=e_ (q_ (w_ (l_ (h:=?_)))))))))))))));refine A6 rfl (AJ (Rc (Dt mode uid gid (As f a)) (by show(As f a).target.size≤100000;omega)) ?_);rintro r rfl;refine BB (h:=e_ (?_));refine A9 rfl (fun hb2=>?_) (fun hb2=>?_)
 ·have hc2:=bp hb2;refine w_ (Ab (h:=s_ (h:=a_ (h:=e_ (A4 (A7 (?_)))))));refine Au (r:=Mx (GC f a mode uid gid)) none (h5:=?_) (h6:=⟨rfl,rfl,rfl⟩);rw[GC,if_neg (by simp[hc1]),if_pos hc2];exact So _
 have hc2:=bp hb2;obtain⟨q,i,d,n0,hdq,hq,hn0,hino,hidx,hnode⟩:=(GP f a).resolve_left (fun h=>by simp[Cg,h.2]at hc1);have hil:=(Ah.1 hn0).1;have hql:=(Ah.1 hq).1;have hng:As f a=n0:=by simp[As,hnode]
 refine AE (w_ (l_ (h:=?_)));refine A6 rfl (EB [] rfl (.cons _ _ _ _ _ rfl (AX _) .nil) (by decide) .nil (Jh f q d hf hq (by omega)) ?_);rintro r bc tc ⟨rfl,cap,cap1,hcap,hcap1,rfl,rfl⟩;refine⟨rfl,_,(Jl (n:=4) rfl f q d d.nodes cap cap1:Back _ [] _ [_,_,_,_,_,_]),?_⟩;have hD0:(DB f q d 5 cap cap1)[0+q * 2+1]?=some (.bs 5 0 8 d.nodes.length cap1):=G8 hql
 have hset:SetAt (NB d.nodes cap1) (0+i * 8) (Ak (Dt mode uid gid (As f a))) (NB (d.nodes.set i (Dt mode uid gid (As f a))) cap1):=by
  rw[hng];exact Ou (k:=0) hn0 (by repeat constructor) (by simp[Ak])
 refine Ac (h:=s_ (h:=e_ (q_ (CE ([(0,Aq f),(1,AD a),(3,Ak (Dt mode uid gid (As f a))),(4,DB f q d 5 cap cap1),(6,[.bs 4 0 2 f.length cap])]) 13 (h:=Ay 0 (h:=?_))))))
 first|refine AY 1 (h:=?_)|refine BK 1 rfl (fun _ hS=>BY (row:=DB f q d 5 cap cap1) rfl (kb hS rfl) hD0 ⟨rfl,rfl⟩) ?_
 refine Ay 2 (h:=?_)
 first|refine AY 3 (h:=?_)|refine BK 3 rfl (fun _ hS=>BY (row:=DB f q d 5 cap cap1) rfl (kb hS rfl) hD0 ⟨rfl,rfl⟩) ?_
 refine BK 4 rfl (fun _ hS=>DJ (m:=q) rfl rfl hdq hql ⟨rfl,rfl⟩) ?_;refine Ay 5 (h:=?_)
 first|refine AY 6 (h:=?_)|refine BK 6 rfl (fun _ hS=>BY (row:=DB f q d 5 cap cap1) rfl (kb hS rfl) hD0 ⟨rfl,rfl⟩) ?_
 first|refine AY 7 (h:=?_)|refine BK 7 rfl (fun _ hS=>BY (row:=DB f q d 5 cap cap1) rfl (kb hS rfl) hD0 ⟨rfl,rfl⟩) ?_
 first|refine AY 8 (h:=?_)|refine BK 8 rfl (fun _ hS=>BY (row:=DB f q d 5 cap cap1) rfl (kb hS rfl) hD0 ⟨rfl,rfl⟩) ?_
 first|refine AY 10 (h:=?_)|refine BK 10 rfl (fun _ hS=>BY (row:=DB f q d 5 cap cap1) rfl (kb hS rfl) hD0 ⟨rfl,rfl⟩) ?_
 refine c_ 9 rfl (Fc 2 rfl (.cons _ _ _ _ _ rfl (LeA.of_eq (HQ hq hcap hcap1 (BU _) (BU _) rfl rfl)) (.cons _ _ _ _ _ rfl (AX _) .nil)) (Gy f a hf) ?_);rintro r rfl;refine⟨rfl,?_⟩;refine o_ (h:=?_);refine BK 11 rfl (fun _ hS=>DJ (m:=i) rfl rfl hidx hil ⟨rfl,rfl⟩) ?_;refine Bm 12 rfl (Bd rfl rfl rfl rfl rfl rfl hset (by repeat constructor) ?_);refine o_ (h:=z_ (h:=t_ (?_)));refine CA (fun t=>t=⟨look [(10, .bp 2 0),(11, .v (.int .i64 0))],⟨[Aq f,AD a,Aq (f.set q {d with nodes:=d.nodes.set i (Dt mode uid gid (As f a))})],[]⟩⟩) ?_ ?_
 ·skip
  refine AW (l_ (h:=s_ (h:=a_ (h:=AQ (?_)))));refine AK ?_;exact⟨_,rfl,Ew 3 2 rfl (congrArg (fun x=>[Aq f,AD a,x]) (FT (k:=0) (i:=4) (j:=5) (d:=d) (d':={d with nodes:=d.nodes.set i (Dt mode uid gid (As f a))}) hql rfl (by simp) hcap (by simpa using hcap1) (B8 rfl) (B8 rfl) rfl rfl)) (.cons _ _ _ _ rfl (AX _) (.cons _ _ _ _ rfl (AX _) .nil))⟩
 rintro t rfl;refine A4 (?_);refine A8 ?_;rw[GC,if_neg (by simp[hc1]),if_neg (by simp[hc2]),hdq,Int.toNat_natCast,FU hq,←hino,←LJ (hv.vd d (Ar hq)).asc hn0,←hng];rfl
theorem Xx(f:AZ)(dir:AA)(name:AG)(n:Nod)(hv:FlsV f)(hs:name.size≤100000)(hns:n.target.size≤100000):AFn prog 177 [.agg (Aq f), .agg (AD dir), .v (.string name), .agg (Ak n)] (fun r=>r=CO (EU f dir name n)):=by
 have hf:=hv.b;obtain⟨e0,he0⟩:∃e0:Int,e0=if CB f dir name≠0 then CB f dir name else if E1 n=false then 22 else 0:=⟨_,rfl⟩
 refine enter Tryz.func177 rfl rfl rfl rfl rfl 0 rfl ?_;refine w_ (b_ (h:=b_ (h:=b_ (h:=Ac (h:=a_ (h:=a_ (h:=e_ (w_ (l_ (h:=l_ (h:=m_ (h:=?_))))))))))));refine A6 rfl (AJ (Ja f dir name hf hs) ?_);rintro r rfl;refine a_ (h:=e_ (?_));refine CA (fun t=>t=⟨look [(2, .v (.string name)),(4, .bp 0 0),(5, .bp 1 0),(7, .bp 2 0),(8, .bp 3 0),(9, .v (.slice none 0 0)),(10, .v (.int .i64 0)),(11, .v (.int .i64 e0))],⟨[Aq f,AD dir,Ak n,[.v (.slice none 0 0)]],[]⟩⟩) ?_ ?_
 ·skip
  refine w_ (m_ (h:=AN (h:=m_ (h:=?_))));refine AR true rfl rfl (fun hb1=>?_) (fun hb1=>?_)
  ·have hc1:=bp hb1;refine l_ (h:=?_);refine Av (AJ (Rc n hns) ?_);rintro r rfl;refine BB (h:=AB (h:=e_ (?_)));refine A9 rfl (fun hb2=>?_) (fun hb2=>?_)
   ·have hc2:=bp hb2;have hee:e0=22:=by rw[he0,if_neg (by omega),if_pos hc2]
    refine AW (a_ (h:=AQ (?_)));refine AK ?_;refine⟨_,rfl,?_⟩;rw[hee];exact(wk 4 0)
   have hc2:=bp hb2;have hee:e0=CB f dir name:=by rw[he0,if_neg (by omega),if_neg (by simp[hc2]),hc1]
   refine Aw (?_);refine AK ?_;refine⟨_,rfl,?_⟩;rw[hee];exact(wk 4 0)
  have hc1:=bp hb1;have hee:e0=CB f dir name:=by rw[he0,if_pos hc1]
  refine A3 (h:=A3 (h:=A3 (h:=AF (h:=e_ (Be (h:=Aw (?_)))))));refine AK ?_;refine⟨_,rfl,?_⟩;rw[hee];exact(wk 4 0)
 rintro t rfl;refine q_ (w_ (m_ (h:=Ao (h:=e_ (?_)))));refine A9 rfl (fun hb3=>?_) (fun hb3=>?_)
 ·have hc3:=bp hb3;refine w_ (Ab (h:=m_ (h:=s_ (h:=a_ (h:=a_ (h:=e_ (A4 (A7 (?_)))))))));refine Au (r:=CO (EU f dir name n)) none (h5:=?_) (h6:=⟨rfl,rfl,rfl⟩)
  rw[show EU f dir name n=([],[],e0) by
   unfold EU;by_cases h:CB f dir name=0
   ·rw[if_neg (by omega)]at he0 ⊢;by_cases h2:E1 n=false
    ·rw[if_pos h2]at he0 ⊢;rw[he0]
    rw[if_neg h2]at he0;omega
   rw[if_pos h]at he0 ⊢;rw[he0]]
  exact Cu _
 have hc3:=bp hb3
 have hpl:CB f dir name=0:=by
  by_cases h:CB f dir name=0
  ·exact h
  rw[if_pos h]at he0;omega
 have hpn:¬E1 n=false:=by
  intro h;rw[if_neg (by omega),if_pos h]at he0;omega
 refine AE (q_ (w_ (l_ (h:=l_ (h:=m_ (h:=?_))))));refine A6 rfl (AJ (H3 f dir name hf) ?_);rintro r rfl;refine m_ (h:=x_ (h:=x_ (h:=Ac (h:=s_ (h:=a_ (h:=e_ (w_ (m_ (h:=AN (h:=e_ (?_)))))))))));refine A9 rfl (fun hb4=>?_) (fun hb4=>?_)
 ·have hc4:=bp hb4;refine w_ (Ab (h:=s_ (h:=a_ (h:=a_ (h:=e_ (A4 (A7 (?_))))))));refine Au (r:=CO (EU f dir name n)) none (h5:=?_) (h6:=⟨rfl,rfl,rfl⟩);rw[EU,if_neg (by omega),if_neg hpn,if_pos (by omega)];exact Cu _
 have hc4:=bp hb4;obtain⟨q,i,d,n0,hdq,hq,hn0,hino,hidx,hnode,hk0,hnm⟩:=FV (name:=name) (dir:=dir) (f:=f) hpl;have hil:=(Ah.1 hn0).1;have hql:=(Ah.1 hq).1;have hvd:=hv.vd d (Ar hq);have hatI:Ey f dir.1=some d:=by rw[hdq,J3,hq]
 have hrow:(f.map Bi)[q]?=some (Bi d):=by rw[List.getElem?_map,hq];rfl
 have hnx1:=hvd.next2;have hnx2:=hvd.nextM;have hdl:=hvd.len;refine AE (w_ (f_ (h:=l_ (h:=f_ (h:=l_ (h:=?_))))));refine A6 rfl (DV (n:=q) rfl rfl hdq hrow ?_);refine l_ (h:=Ac (h:=s_ (h:=e_ (q_ (w_ (f_ (h:=l_ (h:=n_ (h:=DL (h:=m_ (h:=?_)))))))))));refine AR false rfl rfl (fun hb5=>?_) (fun hb5=>?_)
 ·have hc5:=bp hb5;refine A3 (h:=A3 (h:=A3 (h:=AB (h:=m_ (h:=A3 (h:=A3 (h:=A3 (h:=AB (h:=e_ (B2 (h:=w_ (Ab (h:=s_ (h:=a_ (h:=a_ (h:=e_ (A4 (A7 (?_)))))))))))))))))));refine Au (r:=CO (EU f dir name n)) none (h5:=?_) (h6:=⟨rfl,rfl,rfl⟩);rw[EU,if_neg (by omega),if_neg hpn,if_neg (by omega),hatI];simp only;rw[if_pos (by first|exact .inl (by simp at *;omega)|exact .inr (.inl (by omega))|exact .inr (.inr (by assumption)))];exact Cu _
 have hc5:=bp hb5;refine f_ (h:=l_ (h:=AN (h:=AF (h:=m_ (h:=?_)))));refine AR false rfl rfl (fun hb6=>?_) (fun hb6=>?_)
 ·have hc6:=bp hb6;refine A3 (h:=A3 (h:=A3 (h:=AB (h:=e_ (B2 (h:=w_ (Ab (h:=s_ (h:=a_ (h:=a_ (h:=e_ (A4 (A7 (?_))))))))))))));refine Au (r:=CO (EU f dir name n)) none (h5:=?_) (h6:=⟨rfl,rfl,rfl⟩);rw[EU,if_neg (by omega),if_neg hpn,if_neg (by omega),hatI];simp only;rw[if_pos (by first|exact .inl (by simp at *;omega)|exact .inr (.inl (by omega))|exact .inr (.inr (by assumption)))];exact Cu _
 have hc6:=bp hb6;refine l_ (h:=l_ (h:=?_));refine Av (AJ (OR f dir hf) ?_);rintro r rfl;refine AF (h:=e_ (?_));refine A9 rfl (fun hb7=>?_) (fun hb7=>?_)
 ·have hc7:=bp hb7;refine w_ (Ab (h:=s_ (h:=a_ (h:=a_ (h:=e_ (A4 (A7 (?_))))))));refine Au (r:=CO (EU f dir name n)) none (h5:=?_) (h6:=⟨rfl,rfl,rfl⟩);rw[EU,if_neg (by omega),if_neg hpn,if_neg (by omega),hatI];simp only;rw[if_pos (by first|exact .inl (by simp at *;omega)|exact .inr (.inl (by omega))|exact .inr (.inr (by assumption)))];exact Cu _
 have hc7:=bp hb7;refine AE (w_ (l_ (h:=?_)));refine A6 rfl (EB [] rfl (.cons _ _ _ _ _ rfl (AX _) .nil) (by decide) .nil (Jh f q d hf hq (by omega)) ?_);rintro r bc tc ⟨rfl,cap,cap1,hcap,hcap1,rfl,rfl⟩;refine⟨rfl,_,(Jl (n:=6) rfl f q d d.nodes cap cap1:Back _ [] _ [_,_,_,_,_,_,_,_]),?_⟩;have hD0:(DB f q d 7 cap cap1)[0+q * 2+1]?=some (.bs 7 0 8 d.nodes.length cap1):=G8 hql;obtain⟨mk,hmk⟩:∃mk,mk=Dk n d.next dir.2:=⟨_,rfl⟩;refine Ac (h:=s_ (h:=e_ (w_ (f_ (h:=l_ (h:=f_ (h:=l_ (h:=f_ (h:=l_ (h:=f_ (h:=l_ (h:=f_ (h:=l_ (h:=f_ (h:=l_ (h:=?_))))))))))))))));refine A6 rfl (Gw (y:= .agg (Ak ⟨d.next,n.kind,n.mode,n.uid,n.gid,0,n.target,[]⟩)) (E0 ⟨rfl,rfl⟩) ?_);refine Ac (h:=s_ (h:=e_ (?_)));refine CA (fun t=>t=⟨look [(2, .v (.string name)),(5, .bp 1 0),(8, .bp 3 0),(15, .bp 8 0),(16, .bp 9 0)],⟨[Aq f,AD dir,Ak n,[.v (.slice none 0 0)],AD (AO f dir name).1,Bi d,DB f q d 7 cap cap1,NB d.nodes cap1,[.bs 6 0 2 f.length cap],Ak mk],[]⟩⟩) ?_ ?_
 ·skip
  refine w_ (f_ (h:=l_ (h:=AN (h:=e_ (?_)))));refine A9 rfl (fun hb8=>?_) (fun hb8=>?_)
  ·have hc8:=bp hb8;have hmk2:mk=⟨d.next,n.kind,n.mode,n.uid,n.gid,dir.2,n.target,[]⟩:=by rw[hmk];unfold Dk;rw[if_pos hc8]
   refine AW (f_ (h:=l_ (h:=f_ (h:=s_ (h:=AQ (?_))))));refine AK ?_;refine⟨_,rfl,?_⟩;rw[hmk2];exact C0 10 0 (by simp[BH,BD,B6,Bf,Bg,AD,Ak,Aq,Bi])
  have hc8:=bp hb8;have hmk2:mk=⟨d.next,n.kind,n.mode,n.uid,n.gid,0,n.target,[]⟩:=by rw[hmk];unfold Dk;rw[if_neg hc8]
  refine Aw (?_);refine AK ?_;refine⟨_,rfl,?_⟩;rw[hmk2];exact C0 10 0 (by simp[BH,BD,B6,Bf,Bg,AD,Ak,Aq,Bi])
 rintro t rfl;refine CA (fun t=>∃capx,(d.nodes++[mk]).length≤capx∧t=⟨look [(2, .v (.string name)),(5, .bp 1 0),(8, .bp 3 0),(15, .bp 8 0),(16, .bp 9 0)],⟨[Aq f,AD dir,Ak n,[.v (.slice none 0 0)],AD (AO f dir name).1,Bi d,DB f q {d with nodes:=d.nodes++[mk]} 7 cap capx,NB (d.nodes++[mk]) capx,[.bs 6 0 2 f.length cap],Ak mk],[]⟩⟩) ?_ ?_
 ·skip
  refine CE ([(0,Aq f),(1,AD dir),(2,Ak n),(3,[.v (.slice none 0 0)]),(4,AD (AO f dir name).1),(5,Bi d),(6,DB f q d 7 cap cap1),(8,[.bs 6 0 2 f.length cap]),(9,Ak mk)]) 16 (h:=?_);refine DN 0 rfl (fun h0 hS=>Dn rfl ⟨rfl,rfl⟩) ?_
  first|refine DN 1 rfl (fun h0 hS=>BY (row:=DB f q d 7 cap cap1) rfl (kb hS rfl) hD0 ⟨rfl,rfl⟩) ?_|refine DN 1 rfl (fun h0 hS=>BY rfl (kb hS rfl) rfl ⟨rfl,rfl⟩) ?_
  refine DN 2 rfl (fun h0 hS=>Dn rfl ⟨rfl,rfl⟩) ?_
  first|refine DN 3 rfl (fun h0 hS=>BY (row:=DB f q d 7 cap cap1) rfl (kb hS rfl) hD0 ⟨rfl,rfl⟩) ?_|refine DN 3 rfl (fun h0 hS=>BY rfl (kb hS rfl) rfl ⟨rfl,rfl⟩) ?_
  refine DN 4 rfl (fun h0 hS=>Dn rfl ⟨rfl,rfl⟩) ?_
  first|refine DN 5 rfl (fun h0 hS=>BY (row:=DB f q d 7 cap cap1) rfl (kb hS rfl) hD0 ⟨rfl,rfl⟩) ?_|refine DN 5 rfl (fun h0 hS=>BY rfl (kb hS rfl) rfl ⟨rfl,rfl⟩) ?_
  refine DN 6 rfl (fun h0 hS=>Dn rfl ⟨rfl,rfl⟩) ?_
  first|refine DN 7 rfl (fun h0 hS=>BY (row:=DB f q d 7 cap cap1) rfl (kb hS rfl) hD0 ⟨rfl,rfl⟩) ?_|refine DN 7 rfl (fun h0 hS=>BY rfl (kb hS rfl) rfl ⟨rfl,rfl⟩) ?_
  refine DN 8 rfl (fun h0 hS=>DJ (m:=q) rfl rfl hdq hql ⟨rfl,rfl⟩) ?_;refine DN 9 rfl (fun h0 hS=>Dn rfl ⟨rfl,rfl⟩) ?_
  first|refine DN 10 rfl (fun h0 hS=>BY (row:=DB f q d 7 cap cap1) rfl (kb hS rfl) hD0 ⟨rfl,rfl⟩) ?_|refine DN 10 rfl (fun h0 hS=>BY rfl (kb hS rfl) rfl ⟨rfl,rfl⟩) ?_
  first|refine DN 11 rfl (fun h0 hS=>BY (row:=DB f q d 7 cap cap1) rfl (kb hS rfl) hD0 ⟨rfl,rfl⟩) ?_|refine DN 11 rfl (fun h0 hS=>EX rfl (kb hS rfl) rfl ⟨rfl,rfl⟩) ?_
  refine DN 12 rfl (fun h0 hS=>KR (by repeat (first|exact DenseA.nil _|(apply DenseA.cons;(focus exact rfl);(focus exact rfl);(focus exact rfl);(focus exact rfl))|(apply DenseA.consE;(focus exact rfl);(focus exact rfl);(focus exact rfl)))) rfl rfl rfl rfl ⟨rfl,rfl⟩) ?_;refine c_ 13 rfl (OC rfl rfl rfl (by rw[Kw hcap1];omega) Mr (by omega) (by omega) ?_ ?_)
  ·rintro hg row2 bx2 hs hb;obtain rfl:=ST hs hg;obtain rfl:bx2=[_,_,_,_,_,_,_,_,_,_]:=hb.one.2;have hgx:(d.nodes++[mk]).length≤cap1:=by simpa using hg
   refine o_ (h:=?_);refine DN 14 rfl (fun h0 hS=>DJ (m:=q) rfl rfl hdq hql ⟨rfl,rfl⟩) ?_;refine DN 15 rfl (fun h0 hS=>Dn rfl ⟨rfl,rfl⟩) ?_;refine Bm 16 rfl (Bd rfl rfl rfl rfl rfl rfl (Sq mk hql) (by repeat constructor) ?_);refine o_ (h:=z_ (h:=?_));refine AK ?_
   first|exact⟨_,⟨_,hgx,rfl⟩,Gr [0,1,2,3,4,5,6,10,8,9] (fun i hi=>absurd hi (Nat.not_lt_zero i)) (by decide) (.cons _ _ _ _ _ rfl rfl (.cons _ _ _ _ _ rfl rfl (.cons _ _ _ _ _ rfl rfl (.cons _ _ _ _ _ rfl rfl (.cons _ _ _ _ _ rfl rfl (.cons _ _ _ _ _ rfl rfl (.cons _ _ _ _ _ rfl (HG (by rfl) _ _ _ _ _) (.cons _ _ _ _ _ rfl (Ff _ _ _) (.cons _ _ _ _ _ rfl rfl (.cons _ _ _ _ _ rfl rfl .nil)))))))))) (by repeat (first|exact SubK.nil|refine SubK.cons _ _ _ _ rfl (AX _) ?_))⟩|exact⟨_,⟨_,hgx,rfl⟩,C0 10 0 (by simp[BH,BD,B6,Bf,Bg,AD,Ak,Aq,Bi])⟩
  rintro hg cap3 k bx2 hcp3 hs;rw[show((NB d.nodes cap1).drop 0).take (d.nodes.length * 8)++CS (.agg (Ak mk))++List.replicate ((cap3 - (d.nodes.length+1)) * 8) AV.any=NB (d.nodes++[mk]) cap3 from SS d.nodes mk cap1 cap3]at hs;obtain⟨rfl,rfl⟩:k=10∧bx2=[_,_,_,_,_,_,_,_,_,_,_]:=hs.eq;have hgx:(d.nodes++[mk]).length≤cap3:=by simpa using hcp3
  refine o_ (h:=?_);refine DN 14 rfl (fun h0 hS=>DJ (m:=q) rfl rfl hdq hql ⟨rfl,rfl⟩) ?_;refine DN 15 rfl (fun h0 hS=>Dn rfl ⟨rfl,rfl⟩) ?_;refine Bm 16 rfl (Bd rfl rfl rfl rfl rfl rfl (Sq mk hql) (by repeat constructor) ?_);refine o_ (h:=z_ (h:=?_));refine AK ?_
  first|exact⟨_,⟨_,hgx,rfl⟩,Gr [0,1,2,3,4,5,6,10,8,9] (fun i hi=>absurd hi (Nat.not_lt_zero i)) (by decide) (.cons _ _ _ _ _ rfl rfl (.cons _ _ _ _ _ rfl rfl (.cons _ _ _ _ _ rfl rfl (.cons _ _ _ _ _ rfl rfl (.cons _ _ _ _ _ rfl rfl (.cons _ _ _ _ _ rfl rfl (.cons _ _ _ _ _ rfl (HG (by rfl) _ _ _ _ _) (.cons _ _ _ _ _ rfl (Ff _ _ _) (.cons _ _ _ _ _ rfl rfl (.cons _ _ _ _ _ rfl rfl .nil)))))))))) (by repeat (first|exact SubK.nil|refine SubK.cons _ _ _ _ rfl (AX _) ?_))⟩|exact⟨_,⟨_,hgx,rfl⟩,C0 10 0 (by simp[BH,BD,B6,Bf,Bg,AD,Ak,Aq,Bi])⟩
 rintro t ⟨capx,hcapx,rfl⟩;have hasc2:DM (d.nodes++[mk]):=List.pairwise_append.2 ⟨hvd.asc,List.pairwise_singleton _ _,fun x hx y hy=>by obtain rfl:=List.mem_singleton.1 hy;rw[hmk];exact hvd.lt x hx⟩;have hn2:(d.nodes++[mk])[i]?=some n0:=by rw[CQ hil];exact hn0
 have hidx2:ED (f.set q ⟨d.next+1,d.nodes++[mk]⟩) dir=(i:Int):=PQ hdq (d:=⟨d.next+1,d.nodes++[mk]⟩) (by simp[hql]) hasc2 hn2 hino
 have hf2:FlsB (f.set q ⟨d.next+1,d.nodes++[mk]⟩):=hf.set_ (by have:=hvd.len;simp;omega) (fun m hm=>by
  rcases List.mem_append.1 hm with h|h
  ·have:=hvd.many m h;omega
  obtain rfl:=List.mem_singleton.1 h;rw[hmk];simp[Dk])
 have hmki:mk.ino=d.next:=by rw[hmk];rfl
 have hmk0:(Ak mk)[0+0]?=some (.v (.int .i64 d.next)):=by rw[hmk];rfl
 refine w_ (f_ (h:=l_ (h:=f_ (h:=l_ (h:=?_)))));refine A6 rfl (DJ (m:=q) rfl rfl hdq hql ?_);refine f_ (h:=?_);refine A6 rfl (BY rfl rfl (XA hql) ?_);refine A6 rfl (Hn rfl rfl (by dsimp only;omega) ?_);refine A6 rfl (DJ (m:=q) rfl rfl hdq hql ?_);refine f_ (h:=?_);refine MC (Bd rfl rfl rfl rfl rfl rfl (Ov (d':=⟨d.next+1,d.nodes++[mk]⟩) (j':=7) (cap1':=capx) (k:=0) (cs:=[.v (.int .i64 (d.next+1))]) hql (by repeat constructor) (by simp)) (by repeat constructor) ?_);refine e_ (w_ (l_ (h:=l_ (h:=m_ (h:=f_ (h:=l_ (h:=?_)))))));refine A6 rfl (EB [6,7] rfl (.cons _ _ _ _ _ rfl (AX _) (.cons _ _ _ _ _ rfl (AX _) (.cons _ _ _ _ _ rfl (AX _) (.cons _ _ _ _ _ rfl (LeA.of_eq (show AV.v (.int .i64 mk.ino)=_ by rw[hmki])) .nil)))) (by decide) (.cons _ _ _ _ _ rfl (F1 (by rfl) _ _ _ _ _) (.cons _ _ _ _ _ rfl (Eh _ _ _) .nil)) (Sn f q ⟨d.next+1,d.nodes++[mk]⟩ n0 i dir name d.next cap capx hf2 hql hdq hidx2 hn2 hcap hcapx) ?_);rintro r bc tc ⟨rfl,rfl,rfl⟩;refine⟨rfl,_,(Jm (B8 rfl) (B8 rfl) (by decide) f q ⟨d.next+1,d.nodes++[mk]⟩ (entS (d.nodes++[mk]) i n0 name d.next) cap capx capx:Back _ [6,7] _ [_,_,_,_,_,_,_,_,_,_]),?_⟩;refine e_ (?_);refine CA (fun t=>t=⟨look [(8, .bp 3 0),(9, .sl 7 [E3 (dir,name,(0,0),(dir.1,d.next))] none),(10, .v (.int .i64 0))],⟨[Aq f,AD dir,Ak n,Aq (f.set q ⟨d.next+1,entS (d.nodes++[mk]) i n0 name d.next⟩)],[]⟩⟩) ?_ ?_
 ·skip
  refine CE ([(0,Aq f),(1,AD dir),(2,Ak n),(4,AD (AO f dir name).1),(5,Bi d),(8,[.bs 6 0 2 f.length cap]),(9,Ak mk)]) 13 (h:=AY 0 (h:=AY 1 (h:=Ap 2 (h:=?_))));refine BK 3 rfl (fun _ hS=>Fz (y:= .agg (AD (0,0))) (E0 ⟨rfl,rfl⟩) (by repeat (first|exact AX _|exact LeA.nil _|exact LeL.refl _|refine LeA.agg ⟨rfl,rfl⟩|refine LeA.tup ⟨rfl,rfl⟩|exact LeL.nil|refine LeL.cons ⟨rfl,rfl⟩ ⟨rfl,rfl⟩|exact LeA.any _)) ⟨rfl,rfl⟩) ?_;refine Ay 4 (h:=AY 5 (h:=Ay 6 (h:=?_)));refine BK 7 rfl (fun _ hS=>BY (row:=Ak mk) rfl (kb hS rfl) hmk0 ⟨rfl,rfl⟩) ?_;refine GO 8 (h:=?_);refine c_ 9 rfl (AJ (J8 dir name (0,0) (dir.1,d.next)) ?_);rintro r rfl;refine o_ (h:=?_);refine Bm 10 rfl (Bd rfl rfl rfl rfl rfl rfl (by repeat constructor) (by repeat constructor) ?_);refine o_ (h:=BN 11 (h:=BN 12 (h:=z_ (h:=?_))));refine AK ?_;exact⟨_,rfl,Ew 4 2 rfl (congrArg (fun x=>[Aq f,AD dir,Ak n,x]) (FT (k:=0) (i:=6) (j:=7) (d:=⟨d.next+1,d.nodes++[mk]⟩) (d':=⟨d.next+1,entS (d.nodes++[mk]) i n0 name d.next⟩) hql rfl (F4 _ _ _ _ _) hcap (by rw[F4];exact hcapx) (B8 rfl) (B8 rfl) rfl rfl)) (.cons _ _ _ _ rfl (AX _) (.cons _ _ _ _ rfl (AX _) (.cons _ _ _ _ rfl (AX _) .nil)))⟩
 rintro t rfl;refine A4 (?_);refine A8 ?_;rw[List.length_map]at hc5;rw[EU,if_neg (by omega),if_neg hpn,if_neg (by omega),hatI];simp only;rw[if_neg (by rw[hc7];simp;omega),hdq,Int.toNat_natCast,←hino,←Jn hvd hn0,hino,←hmk,show entS d.nodes i n0 name d.next++[mk]=entS (d.nodes++[mk]) i n0 name d.next by unfold entS;rw[List.set_append_left _ _ hil],←hdq];rfl
end
theorem Sr(f:AZ)(hf:FlsB f):AFn prog 182 [.agg (Aq f)] (fun r=>r= .agg (Aq f)):=by
 intro w St bl vs hr hv;have hbl:bl=[]:=by have:=hr.bxlen;simpa using this
 subst hbl;simp only[AT]at hv;obtain⟨z,zs,rfl,hz,rfl⟩:=hv;have hz':Ag St w (.agg (Aq f)) z:=by have:=EM _ _ hz;simpa[CR,DG,Aq]using this
 have hF:=S7 hr.stlt hf hz';refine Calls.mono (Old.Copy_any z f w hF) ?_;rintro e w' ⟨dv,L,rfl,hD,hL,hB⟩;have hsz:=hB.size;obtain⟨d1,d2,d3,d4⟩:=hD;let St':Nat→Nat→Prop:=fun b o=>St b o∨(w.heap.size≤b∧b<w'.heap.size);let G':Gh:=⟨St',[],[]⟩;have hfresh:∀{α:Type} {sz:Nat} {cell:α→Nat→Value} {E:TypeId} {v:Value} {xs:List α},Old.OwnL sz cell E w' w.heap.size v xs→∀b,v.ownBlock=some b→∀o,St' b o:=fun h b hb o=> .inr (h.lt b hb)
 have hents:∀(y:Nod×Value),Old.OwnL 2 Old.entCell 234 w' w.heap.size y.2 y.1.entries→Ag St' w' (.sl 2 (y.1.entries.map CC) none) y.2:=by
  intro y hy;refine Kt hy (hfresh hy) (fun _ _=>rfl) fun e _ j av hj=>?_
  match j,hj with
  |0,hj=>injection hj with hj;subst hj;simp only[Ag];rfl
  |1,hj=>injection hj with hj;subst hj;simp only[Ag];rfl
 have hnod:∀(y:Nod×Value),Old.OwnL 2 Old.entCell 234 w' w.heap.size y.2 y.1.entries→∀j av,(Ak y.1)[j]?=some av→Ag St' w' av (Old.nodCell y j):=by
  intro y hy j av hj
  match j,hj with
  |0,hj=>injection hj with hj;subst hj;simp only[Ag];rfl
  |1,hj=>injection hj with hj;subst hj;simp only[Ag];rfl
  |2,hj=>injection hj with hj;subst hj;simp only[Ag];rfl
  |3,hj=>injection hj with hj;subst hj;simp only[Ag];rfl
  |4,hj=>injection hj with hj;subst hj;simp only[Ag];rfl
  |5,hj=>injection hj with hj;subst hj;simp only[Ag];rfl
  |6,hj=>injection hj with hj;subst hj;simp only[Ag];rfl
  |7,hj=>injection hj with hj;subst hj;exact hents y hy
  |j+8,hj=>exact absurd hj (by simp[Ak])
 have hdev:Ag St' w' (.sl 2 (L.map fun x=>Bi (Old.dvcOf x)) none) dv:=by
  refine Kt d1 (hfresh d1) (fun _ _=>rfl) fun x hx j av hj=>?_;obtain⟨f1,f2,f3⟩:=(d2 x hx).1
  match j,hj with
  |0,hj=>injection hj with hj;subst hj;simp only[Ag];rfl
  |1,hj=>
    injection hj with hj;subst hj;have key:=Kt f1 (St:=St') (hfresh f1) (enc:=fun y=>Ak y.1) (fun _ _=>rfl) fun z hz j av hj=>hnod z (f2 z hz).1 j av hj;have e:((Old.dvcOf x).nodes.map Ak)=x.2.2.map fun y=>Ak y.1:=by simp[Old.dvcOf]
    rw[e];exact key
  |j+2,hj=>exact absurd hj (by simp[Bi])
 have hst:∀b o,St b o→b<w.heap.size:=hr.stlt;refine⟨.agg (Aq f),[],[],G',⟨rfl,rfl,rfl⟩,⟨?_,?_,?_,?_,rfl,?_,?_,?_,?_,rfl,?_,?_,?_⟩,⟨?_,?_,?_⟩,?_⟩
 ·intro i b hi;simp at hi
 ·exact⟨hB.os,hB.tape,hB.output,hB.size,fun k hk _=>hB.block k hk⟩
 ·rintro b o (h|h)
  ·have:=hst b o h;omega
  exact h.2
 ·rintro b o (h|h)
  ·exact .inl h
  exact .inr h.1
 ·show([]:List Nat).Nodup;simp
 ·intro b hb;simp[G']at hb
 ·intro b hb;simp[G']at hb
 ·intro i b row hi;simp[G']at hi
 ·intro g n u T sz rows hg;simp[G']at hg
 ·intro g n u hg;simp[G']at hg
 ·intro g g' n n' u u' hg;simp[G']at hg
 ·exact fun b o h=>⟨.inl h,hB.cell (p:=⟨b,o,none⟩) (hst b o h)⟩
 ·intro i b hi;simp at hi
 ·intro g n u hg;simp at hg
 refine Eo _ _ ?_;unfold Aq;rw[←hL,Old.flsOf,List.map_map];simp only[Ag,BS];have hdev2:Ag St' w' (.sl 2 (L.map (Bi ∘ Old.dvcOf)) none) dv:=hdev;simp only[Ag]at hdev2;exact⟨[dv],rfl,dv,[],rfl,hdev2,rfl⟩
def LM(f:AZ)(a top:AA):Bool:=G6 f top 17 a
def Ei:List Int:=[2,20,22]
def F6(a b:Int):Int:=if a=2∨b=2 then 2 else if a=20∨b=20 then 20 else if a=22∨b=22 then 22 else 0
theorem Ss{a b:Int}{j:Nat}{x:Int}(hx:Ei[j]?=some x)(ha:∀i y,i<j→Ei[i]?=some y→¬(a=y∨b=y))(h:a=x∨b=x):F6 a b=x:=by
 unfold F6
 match j,hx with
 |0,hx=>injection hx with hx;subst hx;rw[if_pos h]
 |1,hx=>
   injection hx with hx;subst hx;rw[if_neg (ha 0 2 (by omega) rfl),if_pos h]
 |2,hx=>
   injection hx with hx;subst hx;rw[if_neg (ha 0 2 (by omega) rfl),if_neg (ha 1 20 (by omega) rfl),if_pos h]
 |j+3,hx=>exact absurd hx (by simp[Ei])
theorem Su(f:AZ)(a:AA)(name:AG):CB f a name=0∨CB f a name=2∨CB f a name=20∨CB f a name=22:=by
 unfold CB;split
 ·exact .inr (.inl rfl)
 split
 ·split
  ·exact .inl rfl
  exact .inr (.inr (.inr rfl))
 exact .inr (.inr (.inl rfl))
theorem Xy{a b:Int}(ha:∀i y,i<3→Ei[i]?=some y→¬(a=y∨b=y)):F6 a b=0:=by
 unfold F6;rw[if_neg (ha 0 2 (by omega) rfl),if_neg (ha 1 20 (by omega) rfl),if_neg (ha 2 22 (by omega) rfl)]
theorem Sv{f:AZ}{x y:AA}{name name2:AG}(h:F6 (CB f x name) (CB f y name2)=0):CB f x name=0∧CB f y name2=0:=by
 unfold F6 at h;split at h
 ·omega
 split at h
 ·omega
 split at h
 ·omega
 rename_i h1 h2 h3;have a:=Su f x name;have b:=Su f y name2;omega
def DO(f:AZ)(src to:AA)(a o:AA)(e:Int):Int:=
 if e=0 then(if Am f o=true∧Am f a=false then 21 else if Am f o=false∧Am f a=true then 20 else if Am f o=true∧Gx f o=false then 39 else 0)else if GR f to=true∧src≠to then 28 else 0
def Jo(ns:List Nod)(src:AA)(name:AG)(to:AA)(name2:AG)(a o:AA)(e:Int):List Nod:=
 if e=0 then Br (BV (BV ns src.2 name 0) to.2 name2 a.2) o.2 else BV (BV ns src.2 name 0) to.2 name2 a.2
def Hb(ns:List Nod)(i:Int)(p:Int)(b:Bool):List Nod:=if b=true then CN ns i (fun n=>{n with parent:=p})else ns
def EV(f:AZ)(src:AA)(name:AG)(to:AA)(name2:AG):J5:=
 if F6 (CB f src name) (CB f to name2)≠0 then([],[],F6 (CB f src name) (CB f to name2))else if(AO f src name).2≠0 then([],[],(AO f src name).2)else if src.1≠to.1 then([],[],18)else
 if Am f (AO f src name).1=true∧LM f to (AO f src name).1=true then([],[],22)else if(AO f to name2).2=0∧(AO f to name2).1=(AO f src name).1 then(f,[],0)else
 if DO f src to (AO f src name).1 (AO f to name2).1 (AO f to name2).2≠0 then([],[],DO f src to (AO f src name).1 (AO f to name2).1 (AO f to name2).2)else
 (GB f to.1.toNat fun ns=>Hb (Jo ns src name to name2 (AO f src name).1 (AO f to name2).1 (AO f to name2).2) (AO f src name).1.2 to.2 (Am f (AO f src name).1),[(src,name,(AO f src name).1,(0,0)),(to,name2,(AO f to name2).1,(AO f src name).1)],0)
theorem Xz(f:AZ):LeA (.tup [.agg (Aq f), .v (.slice none 0 0), .v (.int .i64 0)]) (CO (f,[],0)):=LeA.tup (.cons (AX _) (.cons (LeA.nil 7) (.cons (AX _) .nil)))
theorem Y0{n:Nat}{bx:List (List AV)}{k i j:Nat}{f:AZ}{q:Nat}{d:Dvc}{cap cap0 cap1:Nat}(hq:q<f.length)(hc:f.length≤cap)(hc1:d.nodes.length≤cap1)(hni:n≤i)(hnj:n≤j)
    (hi:bx[i]?=some (DB f q d j cap cap1)) (hj:bx[j]?=some (NB d.nodes cap1)):DK (Cz n bx (k+2)) (.agg [.bs i 0 2 f.length cap0])= .agg (Aq (f.set q d)):=by
 have key:=HQ (n:=n) (bx:=bx) (k:=k) (i:=i) (j:=j) (f:=f.set q d) (K:=q) (d:=d) (cap:=cap) (cap0:=cap0) (cap1:=cap1) (by simp[hq]) (by simpa using hc) hc1 hni hnj (by rw[hi,Ow]) hj;rw[List.length_set]at key;exact key
theorem Y1{n:Nat}{bx:List (List AV)}{k j sz cap:Nat}{rows:List (List AV)}(hn:n≤j)(hj:bx[j]?=some (C7 sz cap rows))(hp:∀r∈rows,∀x∈r,∃v,x= .v v):Cz n bx (k+1) j=some (C7 sz cap rows):=by
 have:Nat.blt j n=false:=by rw[←Bool.not_eq_true,Nat.blt_eq];omega
 simp only[Cz,this,hj,Option.map_some,Ku];rw[Kv _ rfl]
 congr 2
 conv=>rhs;rw[←List.map_id rows]
 apply List.map_congr_left;intro r hr
 conv=>rhs;rw[id,←List.map_id r]
 apply List.map_congr_left;intro x hx;obtain⟨v,rfl⟩:=hp r hr x hx;rfl
theorem Y2(l:List Kf):∀r∈l.map E3,∀x∈r,∃v,x= .v v:=by
 intro r hr x hx;obtain⟨c,_,rfl⟩:=List.mem_map.1 hr;simp[E3]at hx;rcases hx with h|h|h|h|h|h|h<;>exact⟨_,h⟩
theorem Y3(l:List Kf):∀r∈l.map E3,r.length=7:=by
 intro r hr;obtain⟨c,_,rfl⟩:=List.mem_map.1 hr;rfl
theorem Y4{bx:List (List AV)}(bc:List (List AV))(h:∀r∈bc,∀x∈r,∃v,x= .v v):Back bx [] bc (bx++bc):=by
 refine⟨by simp,fun i row _ h=>?_,fun k i row h=>by simp at h,fun k row hk=>?_⟩
 ·rw[CQ (Ah.1 h).1];exact h
 rw[Cy (by omega),show bx.length+k - bx.length=k by omega];simp only[List.length_nil,Nat.zero_add]at hk;rw[hk,Mj]
 congr 1
 conv=>lhs;rw[←List.map_id row]
 apply List.map_congr_left;intro x hx;obtain⟨v,rfl⟩:=h row (Ar hk) x hx;rfl
theorem PR{d:Dvc}(hd:DM d.nodes){i:Nat}{n0:Nod}(hn:d.nodes[i]?=some n0)(name:AG)(ino:Int):entS d.nodes i n0 name ino=BV d.nodes n0.ino name ino:=by
 unfold entS BV;rw[←LJ hd hn];rfl
section
theorem Y5(d:AA)(name:AG)(o n:AA):ACall prog 233 [.agg (AD d), .v (.string name), .agg (AD o), .agg (AD n)] [] (fun r b t=>t=[]∧r= .bs 3 0 7 1 1∧b=[AD d,AD o,AD n,E3 (d,name,o,n)]):=by
 refine enter Tryz.func233 rfl rfl rfl rfl rfl 4 rfl ?_;refine w_ (b_ (h:=b_ (h:=b_ (h:=a_ (h:=e_ (w_ (l_ (h:=m_ (h:=l_ (h:=l_ (h:=Ab (h:=?_))))))))))));refine A6 rfl (Vb (k:=3) rfl rfl rfl rfl (by repeat constructor) ?_);refine a_ (h:=e_ (A4 (?_)));refine Au (r:= .bs 3 0 7 1 1) none (h5:=(AX _)) (h6:=⟨rfl,rfl,rfl⟩)
end
end Go.Proofs.YtbgnigjfkbmceaaGreatDoor
