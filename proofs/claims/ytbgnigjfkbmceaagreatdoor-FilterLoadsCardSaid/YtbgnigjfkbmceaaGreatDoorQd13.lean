/-
  Part 13 of the proof of FilterLoadsP: what the statement's proof uses of the texts in wip/tpl.
-/
import Derived.Lib.IndexLaws
import Derived.Shelf.Abstract
import Derived.Shelf.RegionOpen
import Derived.OwnWalkIn
import Derived.TacticsInMore
import Derived.LoopNIn
import Derived.LoopIn
import Derived.Maps.AppendAt
import Derived.OwnWalk
import Derived.StillTailTactics
import Derived.Test.YtbgnigjfkbmceaaGreatDoorQd12
open Go.Proofs.Tryz (prog)
set_option maxRecDepth 10000
set_option maxHeartbeats 4000000
set_option linter.unusedVariables false
set_option linter.unusedSimpArgs false
namespace Go.Proofs.YtbgnigjfkbmceaaGreatDoor
open Go.RowKit
theorem Zf(s:ByteArray):(0≤Lib.indexAny s.data.toList [0,47])↔((0:UInt8)∈s.data.toList∨(47:UInt8)∈s.data.toList):=by
 generalize s.data.toList=l
 induction l with
 |nil=>simp[Lib.indexAny]
 |cons b l ih=>
   have hge:=Lib.indexAny_ge [0,47] l;unfold Lib.indexAny;by_cases hb:[0,47].contains b=true
   ·rw[if_pos hb];simp only[List.contains_cons,List.contains_nil,Bool.or_false,Bool.or_eq_true,beq_iff_eq]at hb;rcases hb with rfl|rfl<;>simp
   rw[if_neg hb];have h0:(0:UInt8)≠b:=by rintro rfl;simp at hb
   have h47:(47:UInt8)≠b:=by rintro rfl;simp at hb
   simp only[List.mem_cons,h0,h47,false_or];rw[←ih];split
   ·rename_i h;have:Lib.indexAny l [0,47]= -1:=by simpa using h
    rw[this]
   rename_i h;have:Lib.indexAny l [0,47]≠ -1:=by simpa using h
   constructor<;>intro h'<;>omega
theorem Zg(s:ByteArray)(w:World)(hs:s.size≤1000000):Calls prog 245 #[.string s, .string ⟨#[0,47]⟩] w (Tk s w):=by
 by_cases h8:s.size≤8
 ·exact Ze s w h8
 refine(Tryz.strings_IndexAny_long (fun w=>by kernel_rfl) s ⟨#[0,47]⟩ w (by decide) (by omega) (by omega) (by decide) ?_).mono ?_
 ·intro j b hj;have:b∈[0,47]:=Ar hj;simp at this;rcases this with rfl|rfl<;>decide
 rintro e w' ⟨rfl,rfl⟩;exact⟨_,rfl,G7 _ _ _,Zf s⟩
def Pu(s:ByteArray):Bool:=decide ((0:UInt8)∈s.data.toList∨(47:UInt8)∈s.data.toList)
theorem Zh(s:ByteArray)(w:World)(hs:s.size≤1000000):
    Calls prog 186 #[.string s, .string ⟨#[0,47]⟩] w fun e w'=>e= .returned (.bool (Pu s))∧Below w.heap.size w w':=by
 go_enter Tryz.func186,Tryz.ntmps186
 go_wp2_with fail
 refine(Zg s w hs).mono ?_;rintro e w' ⟨v,rfl,hb,hv⟩;have HV:=Lib.hid hv;clear hv
 go_wp2
 go_ret
 exact⟨J9 (decide_eq_decide.2 HV.out),hb⟩
theorem Tl(s:ByteArray):(s.toList==[46])=decide (s.data.toList=[46]):=by rw[FX,Bool.eq_iff_iff];simp
theorem Tm(s:ByteArray):(s.toList==[46,46])=decide (s.data.toList=[46,46]):=by rw[FX,Bool.eq_iff_iff];simp
set_option maxHeartbeats 1000000 in
theorem Tn(s:ByteArray)(w:World):
    Calls prog 131 #[.string s] w fun e w'=>e= .returned (.bool (DY s.data.toList))∧Below w.heap.size w w':=by
 have hsz:=Lib.size_eq s;by_cases h0:s.size=0
 ·have he:s.toList.isEmpty=true:=by rw[Th];simp[h0]
  have he':s.toList=[]:=List.isEmpty_iff.1 he
  have HF:Hid (DY s.data.toList=false):=Lib.hid (by
   rw[←FX,he'];rfl)
  clear hsz
  go_enter Tryz.func131,Tryz.ntmps131
  go_wp2
  go_ret
  exact⟨J9 HF.out.symm,Below.refl _ _⟩
 have he:s.toList.isEmpty=false:=by rw[Th];simp[h0]
 have hne:s.data.toList≠[]:=by intro e;rw[e]at hsz;exact h0 hsz
 by_cases h12:s.size≤12
 ·have hle:decide ((s.size:Int)≤12)=true:=decide_eq_true (by omega);by_cases h1:s.data.toList=[46]
  ·have e1:(s.toList==[46])=true:=by rw[Tl];simp[h1]
   have e1':(s.toList != [46])=false:=by simp[bne,e1]
   have HF:Hid (DY s.data.toList=false):=Lib.hid (by rw[h1];rfl);clear hsz hne h1
   go_enter Tryz.func131,Tryz.ntmps131
   go_wp2
   go_ret
   exact⟨J9 HF.out.symm,Below.refl _ _⟩
  have e1:(s.toList==[46])=false:=by rw[Tl];simp[h1]
  have e1':(s.toList != [46])=true:=by simp[bne,e1]
  by_cases h2:s.data.toList=[46,46]
  ·have e2:(s.toList==[46,46])=true:=by rw[Tm];simp[h2]
   have e2':(s.toList != [46,46])=false:=by simp[bne,e2]
   have HF:Hid (DY s.data.toList=false):=Lib.hid (by rw[h2];rfl);clear hsz hne h1 h2
   go_enter Tryz.func131,Tryz.ntmps131
   go_wp2
   go_ret
   exact⟨J9 HF.out.symm,Below.refl _ _⟩
  have e2:(s.toList==[46,46])=false:=by rw[Tm];simp[h2]
  have e2':(s.toList != [46,46])=true:=by simp[bne,e2]
  have HF:Hid (DY s.data.toList= !Pu s):=Lib.hid (by
   unfold Pu;rw[Bool.eq_iff_iff,Kx];simp only[Bool.not_eq_true',decide_eq_false_iff_not,not_or]
   exact⟨fun h=>h.2.2.2.2,fun h=>⟨hne,by omega,h1,h2,h⟩⟩)
  clear hsz hne h1 h2
  go_enter Tryz.func131,Tryz.ntmps131
  go_wp2_with fail
  refine(Zh s _ (by omega)).mono ?_;rintro e w' ⟨rfl,hb⟩
  go_wp2
  go_ret
  exact⟨J9 HF.out.symm,hb⟩
 have hle:decide ((s.size:Int)≤12)=false:=decide_eq_false (by omega);have HF:Hid (DY s.data.toList=false):=Lib.hid (decide_eq_false (fun h=>by have:=h.2.1;omega));clear hsz hne
 go_enter Tryz.func131,Tryz.ntmps131
 go_wp2
 go_ret
 exact⟨J9 HF.out.symm,Below.refl _ _⟩
theorem To(s:AG):AFn prog 131 [.v (.string s)] (fun r=>r= .v (.bool (Cn s))):=by
 rw[Mq];exact MO (us:=[.string s]) fun w=>Tn s w
end Go.Proofs.YtbgnigjfkbmceaaGreatDoor
namespace Go.Proofs.YtbgnigjfkbmceaaGreatDoor
section
variable {s:Spc}(hv:SpcV s)
include hv
def F9(s:Spc)(a:AA):Prop:=(BZ s a).2=true∧∀i,0<i→F7 s (BJ s (BT s.files) a) i=true
theorem NE{a:AA}(h:Am s.files a=true)(hm:C3 s a.1=true):(BZ s a).2=true:=by rw[N4 hv h hm]
omit hv in
theorem Tp(a:AA)(L:List AA)(i:Nat):F7 s (a::L) (i+2)=F7 s L (i+1):=by
 unfold F7;have h1:(a::L)[i+2]?=L[i+1]?:=List.getElem?_cons_succ;have h2:(a::L)[i+2 - 1]?=L[i+1 - 1]?:=List.getElem?_cons_succ;rw[h1,h2];simp
omit hv in
theorem Tq(a b:AA)(L:List AA):F7 s (a::b::L) 1=true↔∀dev,Bw s b=some dev→a=(dev,1):=by
 unfold F7;simp only[List.getElem?_cons_succ,List.getElem?_cons_zero,Nat.sub_self]
 cases Bw s b with
 |none=>simp
 |some dev=>simp
omit hv in
theorem Tr{L:List AA}{i:Nat}(h:L.length≤i):F7 s L i=true:=by
 unfold F7;rw[List.getElem?_eq_none h]
theorem LW(a:AA):Dg s a=true↔F9 s a∧Bw s a=none:=by
 rw[Yz hv,Bool.and_eq_true,List.all_eq_true];constructor
 ·rintro⟨h1,h2⟩;obtain⟨t,ht⟩:=N2 hv (K4 h1).1;refine⟨⟨h1,fun i hi=>?_⟩,?_⟩
  ·by_cases hl:i<(BJ s (BT s.files) a).length
   ·exact h2 i (List.mem_range.2 hl)
   exact Tr (by omega)
  have h3:=h2 0 (List.mem_range.2 (by rw[ht];simp));rw[ht]at h3;unfold F7 at h3;simp only[List.getElem?_cons_zero]at h3
  cases hc:Bw s a with
  |none=>rfl
  |some dev=>rw[hc]at h3;simp at h3
 rintro⟨⟨h1,h2⟩,hc⟩;refine⟨h1,fun i _=>?_⟩;obtain⟨t,ht⟩:=N2 hv (K4 h1).1;by_cases h0:i=0
 ·subst h0;rw[ht];unfold F7;simp only[List.getElem?_cons_zero,hc]
 exact h2 i (by omega)
theorem NF{a b:AA}(h:Am s.files a=true)(hm:C3 s a.1=true)(hs:CY s a=some b):F9 s a↔F9 s b∧∀dev,Bw s b=some dev→a=(dev,1):=by
 have hb:=LQ hv h hs;have hbm:=Pc hv hm hs;obtain⟨t,ht⟩:=N2 hv hb;have hc:BJ s (BT s.files) a=a::BJ s (BT s.files) b:=by rw[Hf hv h,hs]
 unfold F9;rw[hc];constructor
 ·rintro⟨_,h2⟩;refine⟨⟨NE hv hb hbm,fun i hi=>?_⟩,?_⟩
  ·obtain⟨j,rfl⟩:∃j,i=j+1:=⟨i - 1,by omega⟩;rw[←Tp a];exact h2 _ (by omega)
  have h3:=h2 1 (by omega);rw[ht]at h3;exact(Tq a b t).1 h3
 rintro⟨⟨_,h2⟩,h3⟩;refine⟨NE hv h hm,fun i hi=>?_⟩;by_cases h1:i=1
 ·subst h1;rw[ht];exact(Tq a b t).2 h3
 obtain⟨j,rfl⟩:∃j,i=j+2:=⟨i - 2,by omega⟩;rw[Tp];exact h2 _ (by omega)
theorem Pv(h:Am s.files (0,1)=true):F9 s (0,1):=by
 have hs:CY s (0,1)=none:=by unfold CY;rw[if_neg (by simp)];exact Pd hv
 refine⟨NE hv h (by unfold C3;simp),fun i hi=>?_⟩;rw[Hf hv h,hs];exact Tr (by simp;omega)
theorem Ts{a:AA}{dev:Int}(hc:Bw s a=some dev):CY s (dev,1)=some a∧Am s.files (dev,1)=true∧C3 s dev=true∧dev≠0∧Am s.files a=true:=by
 obtain⟨i,hi⟩:=N5 hc;have hm:=hv.mnt i _ hi;have h1:=hm.dev1;have h2:=hm.dev2;simp only at h1 h2
 have hs:CY s (dev,1)=some a:=by
  unfold CY;rw[if_neg (by simp)];exact TP hv hi
 exact⟨hs,Pm hv (by omega) h2,N3 (s:=s) (m:=(dev,a)) (Ar hi),by omega,hm.dir⟩
theorem Zi{a:AA}(h:F9 s a):F9 s (Fe s a):=by
 unfold Fe
 cases hc:Bw s a with
 |none=>exact h
 |some dev=>
   obtain⟨h1,h2,h3,_⟩:=Ts hv hc;refine(NF hv (a:=(dev,1)) h2 h3 h1).2 ⟨h,fun d hd=>?_⟩;rw[hc]at hd;injection hd with hd;rw[hd]
theorem Tt:∀(n:Nat) (a:AA),F9 s a→F9 s (CV s n a)
 |0,_,h=>h
 |n+1,a,h=>by rw[CV];exact Tt n _ (Zi hv h)
theorem LX{a:AA}(h:F9 s a):Dg s (CV s s.mounts.length a)=true:=(LW hv _).2 ⟨Tt hv _ a h,TN hv _ a fun i m _ _=>by omega⟩
theorem Zj:∀(k:Nat) (a:AA),F9 s a→F9 s (D3 s k a):=by
 intro k
 induction k with
 |zero=>intro a h;exact h
 |succ k ih=>
   intro a h;obtain⟨hd,hm⟩:=K4 h.1;by_cases h1:a.2=1
   ·cases ho:Bj s a.1 with
    |none=>rw[Pl k hd h1 (by rw[ho];rfl)];exact h
    |some on=>
      have hs:CY s a=some on:=by unfold CY;rw[if_neg (by simpa using h1)];exact ho
      rw[Pk k hd h1 (by rw[ho];rfl),ho];exact ih on ((NF hv hd hm hs).1 h).1
   have hs:CY s a=some (a.1,(As s.files a).parent):=if_pos h1;rw[Pj k hd h1];exact((NF hv hd hm hs).1 h).1
omit hv in
theorem Zk{d:Dvc}(hd:VD d){a b m:Nod}(ha:a∈d.nodes)(hb:b∈d.nodes)(hm:m∈d.nodes)(h1:m.ino≠1)(hk:m.kind=2)(hea:∃e∈a.entries,e.2=m.ino)(heb:∃e∈b.entries,e.2=m.ino):a=b:=by
 have hc:=hd.one m hm h1 hk;obtain⟨A,B,hAB,_,_⟩:=Sb hd.asc ha;rw[hAB,P9,Jj]at hc;have h2:=Sa.2 hea;rw[hAB]at hb;rcases List.mem_append.1 hb with hb|hb
 ·have:=L8.2 ⟨b,hb,heb⟩;omega
 rcases List.mem_cons.1 hb with hb|hb
 ·exact hb.symm
 have:=L8.2 ⟨b,hb,heb⟩;omega
theorem NG{a b:AA}{p:AG}(hl:AO s.files a p=(b,0)):Am s.files a=true∧Cn p=true∧b.1=a.1∧b.2≠1∧Cg s.files b=true∧(Am s.files b=true→CY s b=some a):=by
 unfold AO at hl
 cases hn:Bk s.files a with
 |none=>rw[hn]at hl;simp at hl
 |some n=>
   rw[hn]at hl;simp only at hl;by_cases hk:n.kind=2
   ·rw[if_pos hk]at hl;have hdir:Am s.files a=true:=(JH hn).2 hk
    cases hf:n.entries.find? fun e:BF=>decide (e.1=p)with
    |none=>rw[hf]at hl;simp at hl
    |some e=>
      rw[hf]at hl;simp only[Prod.mk.injEq,and_true]at hl;subst hl;have he:=List.mem_of_find?_eq_some hf;have hep:=List.find?_some hf;simp only[decide_eq_true_eq]at hep;obtain⟨q,d,n',e1,e2,e3,e4,e5,e6⟩:=Hd (f:=s.files) (a:=a) (by rw[hdir];simp)
      have hn':n'=n:=by
       have:As s.files a=n:=by unfold As;rw[hn];rfl
       rw[←this];exact e5.symm
      subst hn';have hd:=hv.files.vd d (Ar e2);obtain⟨h1,h2,m,hm,hme⟩:=hd.ent n' e3 e he;have hnb:Bk s.files (a.1,e.2)=some m:=by rw[e1];exact Pb hv e2 hm hme
      refine⟨hdir,by rw[←hep];exact h1,rfl,h2,by unfold Cg;rw[hnb];rfl,fun hdb=>?_⟩;have hmk:m.kind=2:=(JH hnb).1 hdb;have hm1:m.ino≠1:=by rw[hme];exact h2
      obtain⟨p',hp',hpi,hpe⟩:=hd.par m hm hm1 hmk;have:=Zk hd e3 hp' hm hm1 hmk ⟨e,he,hme.symm⟩ hpe;subst this;unfold CY;rw[if_pos h2];unfold As;rw[hnb];simp only[Option.getD_some];rw[←hpi,e4]
   rw[if_neg hk]at hl;simp at hl
theorem Zl{a b:AA}{p:AG}(hl:AO s.files a p=(b,0))(ha:Dg s a=true)(hb:Am s.files b=true):F9 s b:=by
 obtain⟨h1,_,h3,h4,_,h6⟩:=NG hv hl;obtain⟨h7,h8⟩:=(LW hv a).1 ha;refine(NF hv hb (by rw[h3];exact(K4 h7.1).2) (h6 hb)).2 ⟨h7,fun dev hd=>?_⟩;rw[h8]at hd;cases hd
omit hv in
theorem Zm(hv:SpcV s){a:AA}(h:Am s.files a=false)(n:Nat):CV s n a=a:=by
 refine Me ?_ n
 cases hc:Bw s a with
 |none=>rfl
 |some d=>rw[(Ts hv hc).2.2.2.2]at h;cases h
theorem Pw:Am s.files (0,0)=false:=by
 cases hz:Am s.files (0,0)with
 |false=>rfl
 |true=>
   obtain⟨q,d,m,e1,e2,e3,e4,e5,e6⟩:=Hd (f:=s.files) (a:=(0,0)) (by rw[hz];simp);have:=(hv.files.vd d (Ar e2)).pos e3;simp only at e4;omega
theorem Tu{fl:Bool}{p:AG}{ps:List AG}{a:AA}{lk:Nat}{τ:Lk}(h0:Am s.files (0,1)=true)(ha:Am s.files a=true→Dg s a=true)(h:Bp s fl p ps a lk= .inr τ):Am s.files τ.file=true→Dg s τ.file=true:=by
 unfold Bp at h;split at h
 ·cases h
 rename_i hd;have hd:Am s.files a=true:=by simpa using hd
 have hva:=ha hd;have hr:Dg s (Cq s)=true:=LX hv (Pv hv h0);split at h
 ·cases h
 split at h
 ·injection h with h;subst h;exact ha
 split at h
 ·injection h with h;subst h;exact fun _=>LX hv (Zj hv _ a ((LW hv a).1 hva).1)
 split at h
 ·split at h
  ·cases h
  injection h with h;subst h;intro hz;rw[Pw hv]at hz;cases hz
 rename_i hl;have hl:(AO s.files a p).2=0:=by simpa using hl
 split at h
 ·split at h
  ·cases h
  injection h with h;subst h;simp only;split
  ·exact fun _=>hr
  exact ha
 injection h with h;subst h;simp only;intro hz
 cases hb:Am s.files (AO s.files a p).1 with
 |false=>rw[Zm hv hb]at hz;rw[hb]at hz;cases hz
 |true=>exact LX hv (Zl hv (p:=p) (by rw[←hl]) hva hb)
theorem Zn(h0:Am s.files (0,1)=true){fl:Bool}:∀(k:Nat) (σ:Lk),(Am s.files σ.file=true→Dg s σ.file=true)→(DT s fl k σ).1=0→Am s.files (DT s fl k σ).2.file=true→Dg s (DT s fl k σ).2.file=true:=by
 intro k
 induction k with
 |zero=>intro σ h _ hd;exact h hd
 |succ k ih=>
   intro σ h;unfold DT
   cases σ.ps with
   |nil=>exact fun _ hd=>h hd
   |cons p ps=>
     simp only
     cases hs:Bp s fl p ps σ.file σ.links with
     |inl e=>
       intro _ hd;rw[show(e,LU).2.file=((0,0):AA) from rfl,Pw hv]at hd;cases hd
     |inr τ=>exact ih τ (Tu hv h0 h hs)
end
end Go.Proofs.YtbgnigjfkbmceaaGreatDoor
namespace Go.Proofs.YtbgnigjfkbmceaaGreatDoor
theorem Zo{p:AG}(h:Cn p=true):p≠ND∧p≠LT∧p.size≤12∧p≠⟨#[]⟩∧(47:UInt8)∉p.data.toList:=by
 rw[Mq]at h;obtain⟨h1,h2,h3,h4,h5,h6⟩:=Kx.1 h;refine⟨?_,?_,by rw[Lib.size_eq];exact h2,?_,h6⟩<;>(intro e;subst e;first|exact h3 rfl|exact h4 rfl|exact h1 rfl)
theorem Zp{p:AG}(h:p.data.toList=[]):p=⟨#[]⟩:=LS h
theorem Zq{l:Bs}(h1:l≠[])(h2:l.head?≠some 47):Bn l≠[]:=by
 intro h;have h3:Ck (Bx l)=47::l:=Oz l
 cases hs:Bx l with
 |nil=>exact Ml l hs
 |cons p ps=>
   rw[hs,FS]at h3;injection h3 with _ h3
   have h4:p=[]:=by
    unfold Bn at h;rw[hs,List.filter_cons]at h;split at h
    ·cases h
    rename_i hne
    simpa[ne_]using hne
   rw[h4,List.nil_append]at h3
   cases ps with
   |nil=>exact h1 h3.symm
   |cons q ps=>
     rw[FS]at h3;rw[←h3]at h2;simp at h2
theorem Zr{p:AG}(h1:p≠⟨#[]⟩)(h2:Ca p=false):CP p≠[]:=by
 intro h;unfold CP at h;rw[List.map_eq_nil_iff]at h;refine Zq (fun e=>h1 (Zp e)) ?_ h;unfold Ca at h2
 simpa using h2
end Go.Proofs.YtbgnigjfkbmceaaGreatDoor
namespace Go.Proofs.YtbgnigjfkbmceaaGreatDoor
section
variable {s:Spc}(hv:SpcV s)
include hv
omit hv in
theorem Tv{fl:Bool}{p:AG}{ps:List AG}{a:AA}{lk:Nat}{e:Int}(h:Bp s fl p ps a lk= .inl e):e≠0:=by
 unfold Bp at h
 repeat' split at h
 all_goals first|(cases h;done)|(injection h with h;subst h;decide)
def NH(s:Spc)(τ:Lk):Prop:=(τ.name=⟨#[]⟩∧τ.dir=τ.file∧τ.ex=true)∨(Cn τ.name=true∧Am s.files τ.dir=true∧∀lk,Bp s false τ.name [] τ.dir lk= .inr ⟨[],τ.dir,τ.name,τ.file,τ.ex,lk⟩)
theorem Zs{fl:Bool}{p:AG}{ps:List AG}{a:AA}{lk:Nat}{τ:Lk}(h:Bp s fl p ps a lk= .inr τ):NH s τ:=by
 unfold Bp at h;split at h
 ·cases h
 rename_i c1;split at h
 ·cases h
 rename_i c2;split at h
 ·injection h with h;subst h;exact .inl ⟨rfl,rfl,rfl⟩
 rename_i c3;split at h
 ·injection h with h;subst h;exact .inl ⟨rfl,rfl,rfl⟩
 rename_i c4;split at h
 ·rename_i c5;split at h
  ·cases h
  rename_i c6;injection h with h;subst h;simp only[not_or,Decidable.not_not,Bool.not_eq_false]at c6;refine .inr ⟨c6.2,by simpa using c1,fun lk=>?_⟩;unfold Bp;simp only[c1,c2,c3,c4,c5,c6.2,if_false,if_true,ne_eq,not_true_eq_false,or_self,Bool.true_eq_false,not_false_eq_true]
 rename_i c5;split at h
 ·split at h
  ·cases h
  injection h with h;subst h;exact .inl ⟨rfl,rfl,rfl⟩
 rename_i c6;injection h with h;subst h;have hl:AO s.files a p=((AO s.files a p).1,0):=Prod.ext rfl (by simpa using c5);refine .inr ⟨(NG hv hl).2.1,by simpa using c1,fun lk=>?_⟩;unfold Bp;simp only[c1,c2,c3,c4,c5,if_false,ne_eq,not_true_eq_false,or_self,Bool.false_eq_true,and_false,Bool.true_eq_false,reduceCtorEq]
theorem Zt{fl:Bool}:∀(k:Nat) (σ:Lk),NH s σ→(DT s fl k σ).1=0→NH s (DT s fl k σ).2:=by
 intro k
 induction k with
 |zero=>intro σ h _;exact h
 |succ k ih=>
   intro σ h;unfold DT
   cases σ.ps with
   |nil=>exact fun _=>h
   |cons p ps=>
     simp only
     cases hs:Bp s fl p ps σ.file σ.links with
     |inl e=>exact fun c=>absurd c (Tv hs)
     |inr τ=>exact ih τ (Zs hv hs)
theorem Zu{st:AA}{p:AG}{fl:Bool}{x:Fnd}(h:Bt s st p fl=(x,0)):∃τ,NH s τ∧x=F8 s (B7 p) τ:=by
 unfold Bt at h;generalize (if Ca p=true then Cq s else st)=d at h;split at h
 ·cases h
 split at h
 ·cases h
 split at h
 ·cases h
 split at h
 ·rename_i c;injection h with h1 h2;exact absurd h2 c
 rename_i c;split at h
 ·cases h
 injection h with h1 h2;exact⟨_,Zt hv _ _ (.inl ⟨rfl,rfl,rfl⟩) (Decidable.not_not.1 c),h1.symm⟩
end
end Go.Proofs.YtbgnigjfkbmceaaGreatDoor
namespace Go.Proofs.YtbgnigjfkbmceaaGreatDoor
abbrev zz:AG:=⟨#[122,122]⟩
end Go.Proofs.YtbgnigjfkbmceaaGreatDoor
namespace Go.Proofs.YtbgnigjfkbmceaaGreatDoor
structure Wk where
 ps:List AG
 at_:AA
 dir:AA
 name:AG
 missing:Bool
 links:Nat
def Da(s:Spc)(fl:Bool)(p:AG)(ps:List AG)(w:Wk):Int ⊕ Wk:=
 if Am s.files w.at_=false then .inl 20
 else if 12<p.size then .inl 36
 else if p=LT then .inr ⟨ps,CV s s.mounts.length (D3 s (s.mounts.length+1) w.at_),(0,0),⟨#[]⟩,w.missing,w.links⟩
 else if p=ND then .inr ⟨ps,w.at_,(0,0),⟨#[]⟩,w.missing,w.links⟩
 else if Cn p=false then .inl 2
 else if(AO s.files w.at_ p).2≠0 then(if ps≠[]then .inl 2 else .inr ⟨ps,w.at_,w.at_,p,true,w.links⟩)
 else if(As s.files (AO s.files w.at_ p).1).kind=3∧(ps≠[]∨fl=true)then
  (if w.links=8 then .inl 40 else
    .inr ⟨CP (As s.files (AO s.files w.at_ p).1).target++ps,if Ca (As s.files (AO s.files w.at_ p).1).target=true then Cq s else w.at_,if Ca (As s.files (AO s.files w.at_ p).1).target=true then(0,0)else w.dir,if Ca (As s.files (AO s.files w.at_ p).1).target=true then⟨#[]⟩else w.name,w.missing,w.links+1⟩)
 else .inr ⟨ps,CV s s.mounts.length (AO s.files w.at_ p).1,w.at_,p,w.missing,w.links⟩
def FA(s:Spc)(sl:Bool)(w:Wk):Fnd:=
 if w.name=⟨#[]⟩then⟨w.at_,⟨#[]⟩,w.at_, !w.missing,sl,(BZ s w.at_).1⟩
 else⟨w.dir,w.name,if w.missing=true then(0,0)else w.at_, !w.missing,sl,if(BZ s w.dir).2=true then Cl (BZ s w.dir).1 w.name else⟨#[]⟩⟩
structure Sim(w:Wk)(σ:Lk):Prop where
 ps:w.ps=σ.ps
 links:w.links=σ.links
 ex:σ.ex= !w.missing
 here:w.missing=false→w.at_=σ.file
 gone:w.missing=true→σ.file=(0,0)∧w.ps=[]∧w.dir=σ.dir∧w.name=σ.name∧w.name≠⟨#[]⟩
 last:w.ps=[]→w.missing=false→(w.name=⟨#[]⟩→σ.name=⟨#[]⟩∧σ.dir=σ.file)∧(w.name≠⟨#[]⟩→w.dir=σ.dir∧w.name=σ.name)
section
variable {s:Spc}(hv:SpcV s)
include hv
theorem Zv{a:AA}{p:AG}(h:Cn p=false):(AO s.files a p).2≠0:=by
 intro e;have:=(NG hv (a:=a) (p:=p) (b:=(AO s.files a p).1) (Prod.ext rfl e)).2.1;rw[this]at h;cases h
theorem Zw{a b:AA}{p:AG}(hl:AO s.files a p=(b,0))(hk:(As s.files b).kind=3):(As s.files b).target≠⟨#[]⟩:=by
 have hb:=(NG hv hl).2.2.2.2.1;obtain⟨q,i,d,m,h1,h2,h3,h4,h5,h6⟩:=LN hb;rw[h6]at hk ⊢;have hp:=(hv.files.vd d (Ar h2)).plain m (Ar h3);unfold E1 at hp;split at hp
 ·cases hp
 try rw[if_pos hk]at hp
 unfold J4 at hp;intro e;rw[e]at hp;revert hp;decide+kernel
theorem Zx(fl:Bool){p:AG}{ps:List AG}{w:Wk}{σ:Lk}(h:Sim w σ)(hm:w.missing=false):(∃e,Da s fl p ps w= .inl e∧Bp s fl p ps σ.file σ.links= .inl e)∨∃w' τ,Da s fl p ps w= .inr w'∧Bp s fl p ps σ.file σ.links= .inr τ∧Sim w' τ:=by
 have ha:=h.here hm;have hex:(true:Bool)= !w.missing:=by rw[hm];rfl
 rw[←ha,←h.links];unfold Da Bp;by_cases c1:Am s.files w.at_=false
 ·simp only[if_pos c1];exact .inl ⟨_,rfl,rfl⟩
 simp only[if_neg c1];by_cases c2:12<p.size
 ·simp only[if_pos c2];exact .inl ⟨_,rfl,rfl⟩
 simp only[if_neg c2];by_cases c3:p=ND
 ·have c4:¬p=LT:=by rw[c3];decide
  simp only[if_pos c3,if_neg c4];exact .inr ⟨_,_,rfl,rfl,rfl,rfl,hex,fun _=>rfl,fun c=>(by rw[hm]at c;cases c),fun _ _=>⟨fun _=>⟨rfl,rfl⟩,fun c=>absurd rfl c⟩⟩
 simp only[if_neg c3];by_cases c4:p=LT
 ·simp only[if_pos c4];exact .inr ⟨_,_,rfl,rfl,rfl,rfl,hex,fun _=>rfl,fun c=>(by rw[hm]at c;cases c),fun _ _=>⟨fun _=>⟨rfl,rfl⟩,fun c=>absurd rfl c⟩⟩
 simp only[if_neg c4];by_cases c5:Cn p=false
 ·have c6:=Zv hv (a:=w.at_) c5;simp only[if_pos c5,if_pos c6,if_pos (show ps≠[]∨Cn p=false from .inr c5)];exact .inl ⟨_,rfl,rfl⟩
 simp only[if_neg c5];have hp0:p≠⟨#[]⟩:=(Zo (by simpa using c5)).2.2.2.1;by_cases c6:(AO s.files w.at_ p).2≠0
 ·simp only[if_pos c6];by_cases c7:ps≠[]
  ·simp only[if_pos c7,if_pos (show ps≠[]∨Cn p=false from .inl c7)];exact .inl ⟨_,rfl,rfl⟩
  simp only[if_neg c7,if_neg (show¬(ps≠[]∨Cn p=false) from fun c=>c.elim c7 c5)];have c8:ps=[]:=Decidable.not_not.1 c7;exact .inr ⟨_,_,rfl,rfl,c8,rfl,rfl,fun c=>(by cases c),fun _=>⟨rfl,c8,rfl,rfl,hp0⟩,fun _ c=>by cases c⟩
 simp only[if_neg c6];by_cases c7:(As s.files (AO s.files w.at_ p).1).kind=3∧(ps≠[]∨fl=true)
 ·simp only[if_pos c7];by_cases c8:w.links=8
  ·simp only[if_pos c8];exact .inl ⟨_,rfl,rfl⟩
  simp only[if_neg c8];have ht:=Zw hv (a:=w.at_) (p:=p) (b:=(AO s.files w.at_ p).1) (Prod.ext rfl (Decidable.not_not.1 c6)) c7.1;refine .inr ⟨_,_,rfl,rfl,rfl,rfl,hex,fun _=>rfl,fun c=>(by rw[hm]at c;cases c),fun hps _=>?_⟩;by_cases c9:Ca (As s.files (AO s.files w.at_ p).1).target=true
  ·simp only[if_pos c9];exact⟨fun _=>⟨trivial,trivial⟩,fun c=>absurd rfl c⟩
  have:=Zr ht (by simpa using c9);exact absurd (List.append_eq_nil_iff.1 hps).1 this
 simp only[if_neg c7];exact .inr ⟨_,_,rfl,rfl,rfl,rfl,hex,fun _=>rfl,fun c=>(by rw[hm]at c;cases c),fun _ _=>⟨fun c=>absurd c hp0,fun _=>⟨rfl,rfl⟩⟩⟩
theorem Zy{sl:Bool}{w:Wk}{σ:Lk}(h:Sim w σ)(hps:w.ps=[]):FA s sl w=F8 s sl σ:=by
 unfold FA F8
 cases hm:w.missing with
 |true=>
   obtain⟨g1,_,g2,g3,g4⟩:=h.gone hm;rw[if_neg g4,h.ex,hm,g1,←g2,←g3];simp only[if_true,g4,if_false]
 |false=>
   have ha:=h.here hm;obtain⟨k1,k2⟩:=h.last hps hm;by_cases c:w.name=⟨#[]⟩
   ·obtain⟨e1,e2⟩:=k1 c;rw[if_pos c,h.ex,hm,e1,e2,←ha];simp only[if_true];by_cases cw:(BZ s w.at_).2=true
    ·rw[if_pos cw]
    rw[if_neg cw];have:BZ s w.at_=(⟨#[]⟩,false):=K1 hv fun c=>cw (NE hv c.1 c.2);rw[this]
   obtain⟨e1,e2⟩:=k2 c;rw[if_neg c,h.ex,hm,←e1,←e2,←ha];simp only[c,if_false,Bool.false_eq_true]
end
end Go.Proofs.YtbgnigjfkbmceaaGreatDoor
namespace Go.Proofs.YtbgnigjfkbmceaaGreatDoor
open Go.RowKit Go.Shelf
attribute [local go_sem] Oper.semAt_some
theorem Zz(s:ByteArray)(w:World):
    Calls prog 239 #[.string s, .string ⟨#[47]⟩] w fun e w'=>
     e= .returned (.func (.func 274) #[] #[.pointer (some ⟨w.heap.size+1,0,none⟩), .pointer (some ⟨w.heap.size,0,none⟩), .pointer (some ⟨w.heap.size+1+1,0,none⟩)])∧
     w'=((w.alloc (.cells #[.string s] 9)).alloc (.cells #[.string ⟨#[47]⟩] 9)).alloc (.cells #[.int .i64 0] 3):=by
 go_enter Tryz.func239,Tryz.ntmps239
 go_wp2
 go_ret
 exact⟨rfl,rfl⟩
def NJ(w:World)(b:Nat):Nat:=match w.cell? ⟨b,0,none⟩with
 |some (.string r)=>r.size
 |_=>0
theorem K6{w:World}{b:Nat}{t:TypeId}{r:ByteArray}(h:Boxed w b t (.string r)):NJ w b=r.size:=by simp[NJ,h.cell]
def Keep3(a b c:Nat)(X Y:World):Prop:=Y.heap[a]?=X.heap[a]?∧Y.heap[b]?=X.heap[b]?∧Y.heap[c]?=X.heap[c]?
theorem Keep3.trans{a b c:Nat}{X Y Z:World}(h:Keep3 a b c X Y)(k:Keep3 a b c Y Z):Keep3 a b c X Z:=⟨k.1.trans h.1,k.2.1.trans h.2.1,k.2.2.trans h.2.2⟩
theorem aA{a b c N:Nat}(ha:a<N)(hb:b<N)(hc:c<N)(W:World)(l:Nat)(o':Obj)(hl:N≤l):Keep3 a b c W (W.putObj l o'):=
 ⟨World.putObj_heap_other (by omega),World.putObj_heap_other (by omega),World.putObj_heap_other (by omega)⟩
theorem aB{a b c:Nat}{X Y:World}(h:Below X.heap.size X Y)(ha:a<X.heap.size)(hb:b<X.heap.size)(hc:c<X.heap.size):Keep3 a b c X Y:=⟨h.block _ ha,h.block _ hb,h.block _ hc⟩
theorem Px(s:ByteArray)(i:Nat)(h:i<s.size):(s.extract (i+1) s.size).size<s.size:=by
 rw[ByteArray.size_extract];omega
theorem aC{s:ByteArray}{i:Nat}(hi:Lib.indexByte s.data.toList 47=i):i<s.size∧Bx s.data.toList=(s.extract 0 i).data.toList::Bx (s.extract (i+1) s.size).data.toList:=by
 have hm:(47:UInt8)∈s.data.toList:=by
  apply Classical.byContradiction;intro h;rw[Ti h]at hi;omega
 obtain⟨j,hj,hlt,hl,hn⟩:=Pt hm;obtain rfl:j=i:=by omega
 refine⟨by rw[Lib.size_eq];exact hlt,?_⟩;rw[Lib.extract_data,Lib.extract_to_end];simp only[List.drop_zero,Nat.sub_zero]
 conv=>lhs;rw[hl]
 exact SE hn _
theorem aD{s:ByteArray}(hi:Lib.indexByte s.data.toList 47<0):Bx s.data.toList=[s.data.toList]:=by
 refine Mm fun h=>?_;obtain⟨i,hi',_⟩:=Pt h;omega
def Cx(xs:List AG):List Bs:=xs.map fun x=>x.data.toList
set_option maxRecDepth 100000 in
set_option maxHeartbeats 1000000 in
theorem aF(n:Nat)(s:ByteArray)(hs:s.size≤1000000)(b0 b1 b2:Nat)(w:World)(h0:Boxed w b0 9 (.string s))(h1:Boxed w b1 9 (.string ⟨#[47]⟩))(h2:Boxed w b2 3 (.int .i64 0))(h01:b0≠b1)(h02:b0≠b2):
    SeqW Fence.wide n prog 274 #[.pointer (some ⟨b1,0,none⟩), .pointer (some ⟨b0,0,none⟩), .pointer (some ⟨b2,0,none⟩)] (fun x:AG=>#[.string x]) (fun b=>b=b0) (Keep3 b0 b1 b2) (fun xs=>Cx xs<+:Bx s.data.toList)
     (fun xs=>Cx xs=Bx s.data.toList) (fun pre=>Cx pre<+:Bx s.data.toList) w:=fun l J Jx W hW hJ hJx hY hst=>by
 have k0:Boxed W b0 9 (.string s):=BO h0 hW h0.lt;have k1:Boxed W b1 9 (.string ⟨#[47]⟩):=BO h1 hW h1.lt;have k2:Boxed W b2 3 (.int .i64 0):=BO h2 hW h2.lt;refine callsIn_of_wp Tryz.func274 rfl trivial ?_ rfl;simp only[Tryz.ntmps274,List.size_toArray,List.length_cons,List.length_nil,Nat.reduceAdd,Nat.reduceSub,Array.replicate_succ,Array.replicate_zero,List.push_toArray,List.append_toArray,List.nil_append,List.cons_append];have c1:=k1.cell
 gi_wp2
 gi_loopw [7] (fun _ wr=>∃(pre:List AG) (r:ByteArray),Boxed wr b0 9 (.string r)∧Boxed wr b1 9 (.string ⟨#[47]⟩)∧Boxed wr b2 3 (.int .i64 0)∧J pre wr∧Hid (Cx pre++Bx r.data.toList=Bx s.data.toList)∧r.size≤s.size) (fun _ wr=>NJ wr b0)
 case atStart=>exact⟨[],s,k0,k1,k2,hst,rfl,At _⟩
 case round=>
  obtain⟨pre,r,m0,m1,m2,hj,hpre,hle⟩:=hrel;clear k0 k1 k2 c1 hst;have c0:=m0.cell;have c1:=m1.cell;have c2:=m2.cell;have f0:=m0.frozen
  gi_wp2_with fail
  refine DR ((callsIn_wide.2 (ZT _ _)).mono ?_);rintro e w' ⟨rfl,rfl⟩;have hge:=Lib.indexByte_ge r.data.toList 47;by_cases hneg:Lib.indexByte r.data.toList 47<0
  ·have HS:=Lib.hid (aD hneg);obtain⟨fn,tmps,assign,body,hy,hR⟩:=hY pre r wr hj (by rw[←hpre.out,HS.out];simp[Cx])
   gi_wp2
   refine⟨(fun h=>by cases h),hR.mono ?_⟩;rintro e W3 (⟨rfl,hJ3,hk3⟩|⟨rfl,hJx3⟩)
   ·gi_wp2
    go_end0
    exact⟨⟨_,rfl⟩, .inl ⟨pre++[r],by rw[←hpre.out,HS.out];simp[Cx],hJ3⟩⟩
   gi_wp2
   go_end0
   exact⟨⟨_,rfl⟩, .inr ⟨pre++[r],by rw[←hpre.out,HS.out];simp[Cx],hJx3⟩⟩
  obtain⟨i,hi⟩:=Int.eq_ofNat_of_zero_le (show 0≤Lib.indexByte r.data.toList 47 by omega);obtain⟨hlt,hseg⟩:=aC hi;have HS:=Lib.hid hseg;clear hseg hge hneg;rw[hi];clear hi;obtain⟨fn,tmps,assign,body,hy,hR⟩:=hY pre (r.extract 0 i) wr hj (by rw[←hpre.out,HS.out];simp[Cx])
  gi_wp2
  refine⟨(fun h=>by cases h),hR.mono ?_⟩;rintro e W3 (⟨rfl,hJ3,hk3⟩|⟨rfl,hJx3⟩)
  ·have q0:Boxed W3 b0 9 (.string r):=hk3.1.trans m0;have q1:Boxed W3 b1 9 (.string ⟨#[47]⟩):=hk3.2.1.trans m1;have q2:Boxed W3 b2 3 (.int .i64 0):=hk3.2.2.trans m2;clear c0 c1 c2 f0 hy hR;have c0:=q0.cell;have c1:=q1.cell;have c2:=q2.cell;have f0:=q0.frozen
   gi_wp2
   go_roundw
   case rel=>exact⟨pre++[r.extract 0 i],r.extract (i+1) r.size,q0.set _,q1.other (Ne.symm h01) _,q2.other (Ne.symm h02) _,hJ _ _ _ hJ3 (Moves.set_ (own:=fun b=>b=b0) _ rfl _),Lib.hid (by rw[←hpre.out,HS.out];simp[Cx]),Nat.le_trans (Nat.le_of_lt (Px r i hlt)) hle⟩
   case measure=>rw[K6 (q0.set _),K6 m0];exact Px r i hlt
  gi_wp2
  refine bodyPost_ret (results_none rfl _ _ _) rfl ?_;exact⟨⟨_,rfl⟩, .inr ⟨pre++[r.extract 0 i],by rw[←hpre.out,HS.out];simp[Cx],hJx3⟩⟩
end Go.Proofs.YtbgnigjfkbmceaaGreatDoor
namespace Go.Proofs.YtbgnigjfkbmceaaGreatDoor
open Go.RowKit Go.Shelf
attribute [local go_sem] Oper.semAt_some
theorem LY(l:Bs):Lib.hasPrefix l [47]=decide (l.head?=some 47):=by
 unfold Lib.hasPrefix
 cases l with
 |nil=>simp
 |cons c t=>
   rw[Bool.eq_iff_iff,List.isPrefixOf_iff_prefix];simp[List.cons_prefix_cons,eq_comm]
theorem aG{l:Bs}(h:l.head?=some 47):Lib.trimPrefix l [47]=l.tail:=by
 unfold Lib.trimPrefix;rw[LY,if_pos (by simp[h])];simp
set_option maxRecDepth 100000 in
set_option maxHeartbeats 1000000 in
theorem Tw(s:ByteArray)(w:World)(h:s.data.toList=[47]∨s.data.toList.head?≠some 47):
    Calls prog 183 #[.string s] w fun e w'=>e= .returned (.bool (D2 s.data.toList))∧Below w.heap.size w w':=by
 by_cases h1:s.data.toList=[47]
 ·obtain rfl:s=⟨#[47]⟩:=Tg h1
  go_enter Tryz.func183,Tryz.ntmps183
  go_wp2
  exact bodyPost_ret (v:= .bool true) (by simp[results,Tryz.results183,go_sem]) rfl ⟨rfl,(Below.refl _ _).alloc (At _) _⟩
 have h2:s.data.toList.head?≠some 47:=h.resolve_left h1;have e1:(s.toList==[47])=false:=by rw[FX,beq_eq_false_iff_ne];exact h1
 have HP:=Lib.hid (LY s.data.toList);have HF:Hid (D2 s.data.toList=false):=Lib.hid (by unfold D2;simp[h1,h2]);have HD:Hid (decide (s.data.toList.head?=some 47)=false):=Lib.hid (decide_eq_false h2);clear h h1 h2
 go_enter Tryz.func183,Tryz.ntmps183
 go_wp2_with fail
 refine(Tryz.strings_CutPrefix _ _ _).mono ?_;rintro e w' ⟨rfl,rfl⟩;rw[HP.out,HD.out]
 go_wp2
 exact bodyPost_ret (v:= .bool false) (by simp[results,Tryz.results183,go_sem]) rfl ⟨by rw[HF.out],(Below.refl _ _).alloc (At _) _⟩
set_option maxRecDepth 100000 in
set_option maxHeartbeats 1000000 in
theorem aH(n:Nat)(hn:Hid (1≤n))(s:ByteArray)(w:World)(hs:s.size≤1000000)(h1:s.data.toList≠[47])(h2:s.data.toList.head?=some 47):
    CallsIn Fence.wide n prog 183 #[.string s] w fun e w'=>e= .returned (.bool (D2 s.data.toList))∧Below w.heap.size w w':=by
 have e1:(s.toList==[47])=false:=by rw[FX,beq_eq_false_iff_ne];exact h1
 have HP:=Lib.hid (LY s.data.toList);have HT:=Lib.hid (aG h2);have HF:Hid (D2 s.data.toList=(Bx s.data.toList.tail).all DY):=Lib.hid (by unfold D2;simp[h1,h2]);have HD:Hid (decide (s.data.toList.head?=some 47)=true):=Lib.hid (decide_eq_true h2);clear h1 h2;refine callsIn_of_wp_marks Tryz.func183 rfl trivial ?_ rfl;simp only[Tryz.ntmps183,List.size_toArray,List.length_cons,List.length_nil,Nat.reduceAdd,Nat.reduceSub,Array.replicate_succ,Array.replicate_zero,List.push_toArray,List.append_toArray,List.nil_append,List.cons_append]
 gi_wp2_with fail
 refine DR ((callsIn_wide.2 (Tryz.strings_CutPrefix _ _ _)).mono ?_);rintro e w' ⟨rfl,rfl⟩;obtain⟨r,hr⟩:∃r:ByteArray,r=⟨(Lib.trimPrefix s.data.toList [47]).toArray⟩:=⟨_,rfl⟩;have hrl:r.data.toList=s.data.toList.tail:=by rw[hr,←HT.out]
 have HR:=Lib.hid hrl;have hrs:r.size≤1000000:=by rw[Lib.size_eq,hrl,List.length_tail,←Lib.size_eq];omega
 rw[HP.out,HD.out];rw[show(⟨(Lib.trimPrefix s.data.toList (ByteArray.mk #[47]).data.toList).toArray⟩:ByteArray)=r from hr.symm];clear hrl hr
 gi_wp2_with fail
 refine DR ((callsIn_wide.2 (Zz _ _)).mono ?_);rintro e w' ⟨rfl,rfl⟩
 gi_wp2_with fail
 have hR:Boxed (w.alloc (.cells #[.bool false] 4)) w.heap.size 4 (.bool false):=Boxed.new _ _ _;obtain⟨W0,hW0⟩:∃W0,w.alloc (.cells #[.bool false] 4)=W0:=⟨_,rfl⟩;have hz0:W0.heap.size=w.heap.size+1:=by rw[←hW0];simp
 have hB0:Below w.heap.size w W0:=by rw[←hW0];exact Eg _ _
 rw[hW0]at hR ⊢;obtain⟨WL,hWL⟩:∃WL,((W0.alloc (.cells #[.string r] 9)).alloc (.cells #[.string ⟨#[47]⟩] 9)).alloc (.cells #[.int .i64 0] 3)=WL:=⟨_,rfl⟩;have hzL:WL.heap.size=w.heap.size+1+1+1+1:=by rw[←hWL];simp[hz0]
 have hBL:Below W0.heap.size W0 WL:=by rw[←hWL];exact Ko _ _ _ _
 have k0:Boxed WL (w.heap.size+1) 9 (.string r):=by rw[←hWL,←hz0];exact Kq _ _ _ _
 have k1:Boxed WL (w.heap.size+1+1) 9 (.string ⟨#[47]⟩):=by rw[←hWL,←hz0];exact Kr _ _ _ _
 have k2:Boxed WL (w.heap.size+1+1+1) 3 (.int .i64 0):=by rw[←hWL,←hz0];exact Ks _ _ _ _
 have kR:Boxed WL w.heap.size 4 (.bool false):=BO hR hBL hR.lt;have hBw:Below w.heap.size w WL:=hB0.trans (hBL.mono (by omega));rw[hWL];have HB0:=Lib.hid hz0;have HBL:=Lib.hid hzL;clear hW0 hWL hz0 hR hB0 hBL hzL
 refine SK rfl hn.out (gf:=274) rfl trivial (enters_of Tryz.func274 (by kernel_rfl) rfl)
  (aF (n - 1) r hrs (w.heap.size+1) (w.heap.size+1+1) (w.heap.size+1+1+1) WL k0 k1 k2 (by omega) (by omega))
  (fun b hb=>by have:=HBL.out;omega) Keep3.trans (fun W l o o' hl _ _=>by have:=HBL.out;exact aA (N:=WL.heap.size) (by omega) (by omega) (by omega) W l o' hl) (Below.refl _ _) (fun _=>rfl)
  (fun pre W=>Boxed W w.heap.size 4 (.bool false)∧(∀p∈Cx pre,DY p=true)∧Below w.heap.size w W)
  (fun c pre W=>c= .ret∧Boxed W w.heap.size 4 (.bool false)∧(∃p∈Cx pre,DY p=false)∧Below w.heap.size w W)
  (fun s X Y h hm=>⟨hm.boxed h.1 (by omega),h.2.1,hm.under h.2.2 (At _) (fun b hb=>by omega) (by have:=HBL.out;omega)⟩)
  (fun c s X Y h hm=>⟨h.1,hm.boxed h.2.1 (by omega),h.2.2.1,hm.under h.2.2.2 (At _) (fun b hb=>by omega) (by have:=HBL.out;omega)⟩)
  ⟨kR,by simp[Cx],hBw⟩
  (fun x=>{tmps:=#[.string s,undef, .pointer (some ⟨w.heap.size,0,none⟩), .string r, .bool true, .string x, .string s, .bool false, .tuple #[.string r, .bool true], .string s, .tuple #[.string r, .bool true], .string r, .bool true, .bool true, .bool false, .string r,
    .func (.func 274) #[] #[.pointer (some ⟨w.heap.size+1+1,0,none⟩), .pointer (some ⟨w.heap.size+1,0,none⟩), .pointer (some ⟨w.heap.size+1+1+1,0,none⟩)], .string x,undef,undef,undef],defers:=[]}) ?assign ?body ?done ?stop
 case assign=>
  intro l x W K hK
  gi_wp2
  exact hK
 case body=>
  rintro l pre x W ⟨hc,hnm,hbw⟩ _ hsz;have hcell:=hc.cell;have hfz:=hc.frozen;have HN:=Lib.hid hnm;have HZ:=Lib.hid hsz;clear hnm hsz
  gi_wp2_with fail
  refine DR ((CallsIn.inRound l (callsIn_wide.2 (Tn x W))).mono ?_);rintro e W' ⟨rfl,hb'⟩;have hc':Boxed W' w.heap.size 4 (.bool false):=BO hc hb' hc.lt;have hbw':Below w.heap.size w W':=hbw.trans (hb'.mono hbw.size);clear hcell hfz;have hcell:=hc'.cell;have hfz:=hc'.frozen;have HX:Hid (Cx (pre++[x])=Cx pre++[x.data.toList]):=Lib.hid (by simp[Cx])
  cases hnx:DY x.data.toList with
  |true=>
    gi_wp2
    have h1:=HBL.out;have h2:=HZ.out;exact⟨JE hb',aB hb' (by omega) (by omega) (by omega),hc',by rw[HX.out];intro p hp;rcases List.mem_append.1 hp with hp|hp;exact HN.out p hp;simp at hp;rw[hp];exact hnx,hbw'⟩
  |false=>
    gi_wp2
    have h1:=HBL.out;exact⟨L0 (JE hb') (by omega) _,rfl,hc'.set _,⟨x.data.toList,by rw[HX.out];simp,hnx⟩,hbw'.setCell (At _) _⟩
 case done=>
  rintro D xs W hD hS ⟨hc,hnm,hbw⟩ hK;have HS:=Lib.hid hS;have HN:=Lib.hid hnm;clear hS hnm;have hcell:=hc.cell;have hfz:=hc.frozen
  gi_wp2
  refine⟨by simp, .inl ⟨_,_,rfl,run_takeDeferred ((KeepsOthers.setCell _ _ _).same D _ hK rfl),?_⟩⟩;have h1:=HBL.out;have hcb:=(Ga (hc.set (.bool true)) (show w.heap.size≠D by omega) (.deferred none)).cell;refine⟨.bool true,by simp[results,Tryz.f183,go_sem,hcb],by rw[HF.out,←HR.out,←HS.out,List.all_eq_true.2 HN.out],JF (hbw.setCell (p:=⟨w.heap.size,0,none⟩) (At _) _) (by omega) _⟩
 case stop=>
  rintro D c pre W hD hSp ⟨rfl,hc,hnm,hbw⟩ hK;have HS:=Lib.hid hSp;have HN:=Lib.hid hnm;clear hSp hnm;have hcell:=hc.cell
  gi_wp2
  refine⟨by simp, .inl ⟨_,_,rfl,run_takeDeferred hK,?_⟩⟩;have h1:=HBL.out;have hcb:=(Ga hc (show w.heap.size≠D by omega) (.deferred none)).cell;refine⟨.bool false,by simp[results,Tryz.f183,go_sem,hcb],?_,JF hbw (by omega) _⟩;obtain⟨p,hp,hpf⟩:=HN.out;rw[HF.out,←HR.out,List.all_eq_false.2 ⟨p,HS.out.subset hp,by simp[hpf]⟩]
theorem aJ(s:ByteArray)(w:World)(hs:s.size≤1000000):
    Calls prog 183 #[.string s] w fun e w'=>e= .returned (.bool (D2 s.data.toList))∧Below w.heap.size w w':=by
 by_cases h1:s.data.toList=[47]
 ·exact Tw s w (.inl h1)
 by_cases h2:s.data.toList.head?=some 47
 ·exact callsIn_wide.1 (aH 6 (Lib.hid (by omega)) s w hs h1 h2)
 exact Tw s w (.inr h2)
end Go.Proofs.YtbgnigjfkbmceaaGreatDoor
namespace Go.Proofs.YtbgnigjfkbmceaaGreatDoor
open Go.RowKit
def flat{α:Type}(sz:Nat)(cell:α→Nat→Value)(xs:List α):List Value:=xs.flatMap fun x=>(List.range sz).map (cell x)
section
variable {α:Type}{sz:Nat}{cell:α→Nat→Value}
theorem flat_get(xs:List α):∀(i j:Nat) (x:α),xs[i]?=some x→j<sz→(flat sz cell xs)[i * sz+j]?=some (cell x j):=by
 induction xs with
 |nil=>intro i j x h;simp at h
 |cons y ys ih=>
   intro i j x h hj;have e:flat sz cell (y::ys)=(List.range sz).map (cell y)++flat sz cell ys:=by simp[flat]
   rw[e]
   cases i with
   |zero=>
     simp at h;subst h;rw[CQ (by simpa using hj)];simp[hj]
   |succ i=>
     rw[Cy (by simp[Nat.add_mul];omega)];simp only[List.getElem?_cons_succ]at h;have:=ih i j x h hj;rw[←this]
     congr 1
     simp[Nat.add_mul];omega
def OwnL(sz:Nat)(cell:α→Nat→Value)(E:TypeId)(w:World)(base:Nat)(v:Value)(xs:List α):Prop:=
 w.ownsRow base E sz v xs.length (flat sz cell xs)
theorem OwnL.list{E:TypeId}{w:World}{base:Nat}{v:Value}{xs:List α}(h:OwnL sz cell E w base v xs)(hf:xs.length≤few){D:Nat→Prop}(hD:∀b,base≤b→b<w.heap.size→D b):ListR sz cell w D v xs:=by
 rcases h.2 with⟨rfl,hn⟩|⟨g,cap,cur,rfl,hb,hg,hnc,_,hcs,htake⟩
 ·obtain rfl:xs=[]:=Cj hn;exact ListR.nil_
 refine⟨_,_,rfl,hnc,hf,fun _=>⟨g,0,rfl,hD g hb (Array.getElem?_eq_some_iff.1 hg).1,fun i x j hi hj=>?_⟩⟩
 have hlt:i * sz+j<xs.length * sz:=by
  have h1:=(Ah.1 hi).1;have h2:(i+1) * sz≤xs.length * sz:=Nat.mul_le_mul_right sz h1;rw[Nat.add_mul]at h2;omega
 rw[Nat.zero_add,cell_of_row w g _ cur E (0,0) hg,←flat_get xs i j x hi hj,←htake,List.getElem?_take,if_pos hlt];simp
end
theorem aK(l:Bs):Lib.hasSuffix l [47]=decide (l.getLast?=some 47):=by
 unfold Lib.hasSuffix;rw[Bool.eq_iff_iff,List.isSuffixOf_iff_suffix,decide_eq_true_iff];rcases List.eq_nil_or_concat l with rfl|⟨a,x,rfl⟩
 ·simp
 simp only[List.concat_eq_append,List.getLast?_concat,Option.some.injEq];constructor
 ·rintro⟨t,ht⟩;have:=congrArg List.getLast? ht
  simpa[eq_comm]using this
 rintro rfl;exact⟨a,rfl⟩
theorem Tx(l:Bs):(Bn l).length≤l.length+1:=by
 have h1:(Bn l).length≤(Bx l).length:=List.length_filter_le _ _
 have h2:(Bx l).length≤l.length+1:=by
  clear h1
  induction l with
  |nil=>simp[Bx]
  |cons c t ih=>
    rw[Ox];split
    ·simp;omega
    split
    ·simp
    rename_i h;rw[h]at ih;simp at ih ⊢;omega
 omega
theorem aL(xs:List AG):flat 1 Kl xs=xs.map Value.string:=by
 induction xs with
 |nil=>rfl
 |cons x xs ih=>
   unfold flat at ih ⊢;rw[List.flatMap_cons,ih];rfl
theorem Tryz.infoStr:(prog.info? 9).map (fun i=>(i.zero,i.size,i.bytes))=some (some (.string ⟨#[]⟩),1,16):=by kernel_rfl
set_option maxHeartbeats 400000 in
theorem aM(s:ByteArray)(w:World)(i:Nat)(hi:Lib.indexByte s.data.toList 47=i)(hlt:i<s.size)(hmax:s.size≤1000000):
    Calls prog 278 #[.string s, .string ⟨#[47]⟩] w fun e w'=>e= .returned (.tuple #[.string (s.extract 0 i), .string (s.extract (i+1) s.size), .bool true])∧∃n,w'=w.drewN n:=by
 have HI:=Lib.hid hi;clear hi
 have h1:Calls prog 290 #[.string s, .string ⟨#[47]⟩] w fun e w'=>e= .returned (.tuple #[.string (s.extract 0 i), .string (s.extract (i+1) s.size), .bool true])∧∃n,w'=w.drewN n:=by
  go_enter Tryz.func290,Tryz.ntmps290
  go_wp2_with fail
  refine(Ps _ _).mono ?_;rintro e w' ⟨rfl,rfl⟩;rw[HI.out]
  go_wp2_with fail
  go_quiet (fail)
  go_wp2
  go_ret3
  exact⟨rfl,_,rfl⟩
 go_enter Tryz.func278,Tryz.ntmps278
 go_wp2_with fail
 refine h1.mono ?_;rintro e w' ⟨rfl,n,rfl⟩
 go_wp2
 go_ret3
 exact⟨rfl,_,rfl⟩
set_option maxHeartbeats 400000 in
theorem aO(s:ByteArray)(w:World)(hi:Lib.indexByte s.data.toList 47= -1):
    Calls prog 278 #[.string s, .string ⟨#[47]⟩] w fun e w'=>e= .returned (.tuple #[.string s, .string ⟨#[]⟩, .bool false])∧w=w':=by
 have HI:=Lib.hid hi;clear hi
 have h1:Calls prog 290 #[.string s, .string ⟨#[47]⟩] w fun e w'=>e= .returned (.tuple #[.string s, .string ⟨#[]⟩, .bool false])∧w=w':=by
  go_enter Tryz.func290,Tryz.ntmps290
  go_wp2_with fail
  refine(Ps _ _).mono ?_;rintro e w' ⟨rfl,rfl⟩;rw[HI.out]
  go_wp2
  go_ret3
  exact⟨rfl,rfl⟩
 go_enter Tryz.func278,Tryz.ntmps278
 go_wp2_with fail
 refine h1.mono ?_;rintro e w' ⟨rfl,rfl⟩
 go_wp2
 go_ret3
 exact⟨rfl,rfl⟩
end Go.Proofs.YtbgnigjfkbmceaaGreatDoor
namespace Go.Proofs.YtbgnigjfkbmceaaGreatDoor
open Go.RowKit Go.Shelf
attribute [local go_sem] Oper.semAt_some
def aQ(s:AG)(w:World)(e:Ending)(w':World):Prop:=∃(p q:AG) (b:Bool) (n:Nat),e= .returned (.tuple #[.string p, .string q, .bool b])∧w'=w.drewN n∧Bn s.data.toList=one_ p.data.toList++Bn q.data.toList∧(0<s.size→q.size<s.size)
theorem aR(s:ByteArray)(w:World)(hmax:s.size≤1000000):Calls prog 278 #[.string s, .string ⟨#[47]⟩] w (aQ s w):=by
 by_cases h:(47:UInt8)∈s.data.toList
 ·obtain⟨i,hi,hlt,hl,hn⟩:=Pt h;have hlt':i<s.size:=by rw[Lib.size_eq];exact hlt
  refine(aM s w i hi hlt' hmax).mono ?_;rintro e w' ⟨rfl,n,rfl⟩;refine⟨_,_,_,n,rfl,rfl,?_,fun _=>Px s i hlt'⟩;rw[Lib.extract_data,Lib.extract_to_end];simp only[List.drop_zero,Nat.sub_zero]
  conv=>lhs;rw[hl]
  exact XB hn _
 refine(aO s w (Ti h)).mono ?_;rintro e w' ⟨rfl,rfl⟩;refine⟨_,_,_,0,rfl,rfl,?_,fun h=>h⟩;rw[Mn h];simp[HU]
theorem aS(s:ByteArray)(w:World):
    Calls prog 261 #[.string s] w fun e w'=>
     e= .returned (.func (.func 277) #[] #[.pointer (some ⟨w.heap.size,0,none⟩)])∧w'=w.alloc (.cells #[.string s] 9):=by
 go_enter Tryz.func261,Tryz.ntmps261
 go_wp2
 go_ret
 exact⟨rfl,rfl⟩
theorem NK(s:ByteArray):s.toList.isEmpty=decide (s.size=0):=by
 rw[FX,Lib.size_eq,Bool.eq_iff_iff,List.isEmpty_iff,decide_eq_true_iff,List.length_eq_zero_iff]
def aT(a:Nat)(X Y:World):Prop:=Y.heap[a]?=X.heap[a]?
set_option maxRecDepth 100000 in
set_option maxHeartbeats 1000000 in
theorem aU(n:Nat)(s:ByteArray)(hs:s.size≤1000000)(b0:Nat)(w:World)(h0:Boxed w b0 9 (.string s)):
    SeqW Fence.wide n prog 277 #[.pointer (some ⟨b0,0,none⟩)] (fun x:AG=>#[.string x]) (fun b=>b=b0) (aT b0) (fun xs=>Cx xs<+:Bn s.data.toList)
     (fun xs=>Cx xs=Bn s.data.toList) (fun pre=>Cx pre<+:Bn s.data.toList) w:=fun l J Jx W hW hJ hJx hY hst=>by
 have k0:Boxed W b0 9 (.string s):=BO h0 hW h0.lt;refine callsIn_of_wp Tryz.func277 rfl trivial ?_ rfl;simp only[Tryz.ntmps277,List.size_toArray,List.length_cons,List.length_nil,Nat.reduceAdd,Nat.reduceSub,Array.replicate_succ,Array.replicate_zero,List.push_toArray,List.append_toArray,List.nil_append,List.cons_append]
 gi_wp2
 gi_loopw [3] (fun _ wr=>∃(pre:List AG) (r:ByteArray),Boxed wr b0 9 (.string r)∧J pre wr∧Hid (Cx pre++Bn r.data.toList=Bn s.data.toList)∧r.size≤s.size) (fun _ wr=>NJ wr b0)
 case atStart=>exact⟨[],s,k0,hst,rfl,At _⟩
 case round=>
  obtain⟨pre,r,m0,hj,hpre,hle⟩:=hrel;clear k0 hst;have c0:=m0.cell;have f0:=m0.frozen;by_cases hr:r.size=0
  ·have he:r.toList.isEmpty=true:=by rw[NK];simp[hr]
   have he':r.toList=[]:=List.isEmpty_iff.1 he;have HP:Hid (Bn r.data.toList=[]):=by rw[←FX,he'];exact Lib.hid HU
   gi_wp2
   go_end0
   exact⟨⟨_,rfl⟩, .inl ⟨pre,by rw[←hpre.out,HP.out];simp,hj⟩⟩
  have he:r.toList.isEmpty=false:=by rw[NK];simp[hr]
  gi_wp2_with fail
  refine DR ((callsIn_wide.2 (aR _ _ (by omega))).mono ?_);rintro e w' ⟨p,q,b,nd,rfl,rfl,hpq,hq⟩;have hql:=hq (by omega);have HP:=Lib.hid hpq;clear hpq hq;have hj':J pre ((wr.drewN nd).setCell ⟨b0,0,none⟩ (.string q)):=hJ _ _ _ (hJ _ _ _ hj (Moves.below (Mf (Below.refl _ _) nd))) (Moves.set_ (own:=fun b=>b=b0) _ rfl _);have m0':Boxed ((wr.drewN nd).setCell ⟨b0,0,none⟩ (.string q)) b0 9 (.string q):=Boxed.set _ (show Boxed (wr.drewN nd) b0 9 (.string r) from m0);by_cases hp:p.size=0
  ·have hpe:p.toList.isEmpty=true:=by rw[NK];simp[hp]
   have hpe':p.toList=[]:=List.isEmpty_iff.1 hpe;have HO:Hid (one_ p.data.toList=[]):=by rw[←FX,hpe'];exact Lib.hid rfl
   gi_wp2
   refine⟨fun _ h=>(by cases h),?_⟩
   gi_wp2
   go_roundw
   case rel=>exact⟨pre,q,m0',hj',Lib.hid (by rw[←hpre.out,HP.out,HO.out];simp),by omega⟩
   case measure=>rw[K6 m0',K6 m0];exact hql
  have HO:Hid (one_ p.data.toList=[p.data.toList]):=Lib.hid (if_neg (fun e=>hp (by rw[Lib.size_eq,e];rfl)));have hpe:p.toList.isEmpty=false:=by rw[NK];simp[hp]
  obtain⟨fn,tmps,assign,body,hy,hR⟩:=hY pre p _ hj' (by rw[←hpre.out,HP.out,HO.out];simp[Cx])
  gi_wp2
  refine⟨(fun h=>by cases h),hR.mono ?_⟩;rintro e W3 (⟨rfl,hJ3,hk3⟩|⟨rfl,hJx3⟩)
  ·have q0:Boxed W3 b0 9 (.string q):=hk3.trans m0';clear c0 f0 hy hR
   gi_wp2
   go_roundw
   case rel=>exact⟨pre++[p],q,q0,hJ3,Lib.hid (by rw[←hpre.out,HP.out,HO.out];simp[Cx]),by omega⟩
   case measure=>rw[K6 q0,K6 m0];exact hql
  gi_wp2
  refine bodyPost_ret (results_none rfl _ _ _) rfl ?_;exact⟨⟨_,rfl⟩, .inr ⟨pre++[p],by rw[←hpre.out,HP.out,HO.out];simp[Cx],hJx3⟩⟩
end Go.Proofs.YtbgnigjfkbmceaaGreatDoor
namespace Go.Proofs.YtbgnigjfkbmceaaGreatDoor
open Go.RowKit Go.Shelf
attribute [local go_sem] Oper.semAt_some
theorem Moves.row{own:Nat→Prop}{B:Nat}{X Y:World}(h:Moves own B X Y){base e size k:Nat}{v:Value}{xs:List Value}(hr:X.ownsRow base e size v k xs)(ho:∀b,own b→b<base):Y.ownsRow base e size v k xs:=by
 refine⟨hr.1,?_⟩;rcases hr.2 with h'|⟨g,cap,cur,hv,hg,hb,r⟩
 ·exact .inl h'
 refine .inr ⟨g,cap,cur,hv,hg,?_,r⟩;exact(h.block g (Array.getElem?_eq_some_iff.1 hb).1 (fun e=>by have:=ho g e;omega) (.inr ⟨_,hb,rfl⟩)).trans hb
theorem aV{W w1:World}{base B:Nat}{t e:TypeId}{size:Nat}{v v':Value}{k m:Nat}{xs ys:List Value}{tmp:Obj}
    (hv:Boxed W B t v) (hrow:W.ownsRow base e size v k xs) (hbase:base≤W.heap.size) (hB:B<base)
    (hown':w1.ownsRow base e size v' m ys) (hgrow:(W.alloc tmp).grownBy w1 v.ownBlock):
    Boxed w1 B t v∧Boxed (w1.setCell ⟨B,0,none⟩ v') B t v'∧(w1.setCell ⟨B,0,none⟩ v').ownsRow base e size v' m ys∧KeepsOthers W (w1.setCell ⟨B,0,none⟩ v')∧
     Below B W (w1.setCell ⟨B,0,none⟩ v')∧∀j,j<base→j≠B→(w1.setCell ⟨B,0,none⟩ v').heap[j]?=W.heap[j]?:=by
 have hne:∀j,j<base→some j≠v.ownBlock:=by
  intro j hj e;have:=World.ownsRow.lt hrow j e.symm;omega
 have hblk:∀j,j<base→w1.heap[j]?=W.heap[j]?:=fun j hj=>(hgrow.block j (by simp;omega) (hne j hj)).trans (Below.heap_alloc W tmp j (by omega));have hv1:Boxed w1 B t v:=(hblk B hB).trans hv;refine⟨hv1,hv1.set v',ownsRow_setCell_below hown' hB v',?_,?_,fun j hj hj'=>(Below.heap_setCell w1 ⟨B,0,none⟩ v' j hj').trans (hblk j hj)⟩
 ·refine((KeepsOthers.alloc W tmp).trans (KeepsOthers.of_grownBy hgrow fun j o ej hj=>?_)).trans (KeepsOthers.setCell _ _ _);rcases(hrow.alloc tmp).2 with⟨rfl,_⟩|⟨g,cap,cur,rfl,_,hgb,_⟩
  ·simp[Value.ownBlock]at ej
  obtain rfl:g=j:=by simpa[Value.ownBlock]using ej
  rw[hgb]at hj;cases hj;rfl
 have hs:=hgrow.size;simp at hs;exact⟨hgrow.os,hgrow.tape,hgrow.output,by simp[World.setCell];omega,fun j hj=>(Below.heap_setCell w1 ⟨B,0,none⟩ v' j (by show j≠B;omega)).trans (hblk j (by omega))⟩
def Ty(l:Bs)(w:World)(e:Ending)(w':World):Prop:=∃(v:Value) (ss:List AG),e= .returned (.tuple #[v, .bool (decide (l.head?=some 47)), .bool (decide (l.getLast?=some 47))])∧Rv w' (Ob w w') v ss∧Cx ss=Bn l∧Below w.heap.size w w'∧∃A c,v= .slice A ss.length c∧c≤maxLen
set_option maxRecDepth 100000 in
set_option maxHeartbeats 2000000 in
theorem aW(n:Nat)(hn:Hid (1≤n))(s:ByteArray)(w:World)(hs:s.size≤60000):
    CallsIn Fence.wide n prog 240 #[.string s] w (Ty s.data.toList w):=by
 obtain⟨i0,hi,hz0,hz1,hz2⟩:=info_parts Tryz.infoStr;refine callsIn_of_wp_marks Tryz.func240 rfl trivial ?_ rfl;simp only[Tryz.ntmps240,List.size_toArray,List.length_cons,List.length_nil,Nat.reduceAdd,Nat.reduceSub,Array.replicate_succ,Array.replicate_zero,List.push_toArray,List.append_toArray,List.nil_append,List.cons_append]
 gi_wp2_with fail
 refine DR ((callsIn_wide.2 (aS _ _)).mono ?_);rintro e w' ⟨rfl,rfl⟩
 gi_wp2_with fail
 obtain⟨WL,hWL⟩:∃WL,(w.alloc (.cells #[.slice none 0 0] 31)).alloc (.cells #[.string s] 9)=WL:=⟨_,rfl⟩;have hzL:WL.heap.size=w.heap.size+1+1:=by rw[←hWL];simp
 have hBw:Below w.heap.size w WL:=by rw[←hWL];exact G7 _ _ _
 have kR:Boxed WL w.heap.size 31 (.slice none 0 0):=by rw[←hWL];exact GW _ _ _
 have k0:Boxed WL (w.heap.size+1) 9 (.string s):=by rw[←hWL];exact GX _ _ _
 rw[hWL];have HZ:=Lib.hid hzL;clear hWL hzL
 refine SK rfl hn.out (gf:=277) rfl trivial (enters_of Tryz.func277 (by kernel_rfl) rfl)
  (aU (n - 1) s (by omega) (w.heap.size+1) WL k0)
  (fun b hb=>by have:=HZ.out;omega) (fun h k=>Eq.trans k h) (fun W l o o' hl _ _=>by have:=HZ.out;exact World.putObj_heap_other (by omega)) (Below.refl _ _) (fun _=>rfl)
  (fun pre W=>∃v,Boxed W w.heap.size 31 v∧W.ownsRow WL.heap.size 9 1 v pre.length (pre.map Value.string)∧Below w.heap.size w W)
  (fun _ _ _=>False)
  (fun s X Y h hm=>by
    obtain⟨v,h1,h2,h3⟩:=h;have:=HZ.out
    exact⟨v,hm.boxed h1 (by omega),hm.row h2 (fun b hb=>by omega),hm.under h3 (At _) (fun b hb=>by omega) (by omega)⟩)
  (fun _ _ _ _ h _=>h)
  ⟨_,kR,World.ownsRow_nil _ _ _ _,hBw⟩
  (fun x=>{tmps:=#[.string s,undef, .pointer (some ⟨w.heap.size,0,none⟩), .bool false, .bool false, .string x, .string s, .func (.func 277) #[] #[.pointer (some ⟨w.heap.size+1,0,none⟩)], .string x,undef,undef,undef,undef,undef,undef,undef,undef,undef],defers:=[]}) ?assign ?body ?done ?stop
 case assign=>
  intro l x W K hK
  gi_wp2
  exact hK
 case body=>
  rintro l pre x W ⟨v,hc,hrow,hbw⟩ hpf hsz;have hcell:=hc.cell;have HZW:=Lib.hid hsz
  have hpl:pre.length≤1000000:=by
   have h1:=hpf.length_le;have h2:=Tx s.data.toList;rw[←Lib.size_eq]at h2;simp[Cx]at h1;omega
  have hmx:pre.length+1≤maxLen:=by unfold maxLen;omega
  clear hsz hpf
  gi_wp2_with (gi_at_builtin;refine wpListIn_append_own _ rfl _ _ 31 rfl WL.heap.size 9 i0 (.string ⟨#[]⟩) 1 16 Tryz.underlying31 hi hz0 hz1 hz2 rfl (by decide) _ _ _ rfl (hrow.alloc _) ⟨W.heap.size,0,none⟩ 1 1 [.string x] rfl rfl (cell_one_new _ _ _) (by simp[Value.oneCell']) (by omega) (by omega) (by have:=HZW.out;simp;omega) ?_;intro v' w1 hown' hgrow _;obtain⟨g',cap',rfl⟩:=ownsRow_succ hown';obtain⟨hv1,hv2,hr2,hk2,hb2,hj2⟩:=aV hc hrow (by have:=HZW.out;omega) (by have:=HZ.out;omega) hown' hgrow;have hc1:=hv1.cell;have hf1:=hv1.frozen)
  have h1:=HZ.out;exact⟨hk2.from _,hj2 _ (by omega) (by omega),⟨_,hv2,by simpa using hr2,hbw.trans hb2⟩⟩
 case done=>
  rintro D xs W hD hS ⟨v,hc,hrow,hbw⟩ hK;have HS:=Lib.hid hS;clear hS
  obtain⟨A,cc,rfl⟩:∃A c,v= .slice A xs.length c:=by
   rcases hrow.2 with⟨rfl,hn⟩|⟨g,cap,cur,rfl,_⟩
   ·exact⟨none,0,by rw[hn]⟩
   exact⟨_,_,rfl⟩
  have hccm:cc≤maxLen:=by
   rcases hrow.2 with⟨h1,_⟩|⟨g,cap,cur,h1,h2,h3,h4,h5,_⟩
   ·injection h1 with _ _ h1;rw[h1];exact BU _
   injection h1 with _ _ h1;rw[h1];exact h5
  have hcell:=hc.cell;have hfz:=hc.frozen
  gi_wp2_with fail
  refine wpIn_wide.2 ?_;refine wp_region_still_tail 5 (by kernel_rfl) (by kernel_rfl) ?_;simp only[List.take_succ_cons,List.take_zero,List.drop_succ_cons,List.drop_zero]
  still_step
  still_step
  still_call (Tryz.strings_HasPrefix _ _ _)
  still_step
  still_call (Tryz.strings_HasSuffix _ _ _ (by omega))
  refine wpStill_nil ?_;change wpList _ _ _ _ _ W.drew;have hc2:Boxed W.drew w.heap.size 31 (.slice A xs.length cc):=hc;have hr2:W.drew.ownsRow WL.heap.size 9 1 (.slice A xs.length cc) xs.length (xs.map Value.string):=hrow;have hb2:Below w.heap.size w W.drew:=hbw.drew;have hK2:W.drew.heap[D]?=some (.deferred (some [])):=hK;clear hc hrow hbw hK hcell hfz;generalize W.drew=W2 at *;have hcell:=hc2.cell;have hfz:=hc2.frozen
  go_wp2
  gi_wp2
  refine⟨by simp, .inl ⟨_,_,rfl,run_takeDeferred ((KeepsOthers.setCell _ _ _).same D _ hK2 rfl),?_⟩⟩;have h1:=HZ.out;have hcb:=(Ga (hc2.set (.slice A xs.length cc)) (show w.heap.size≠D by omega) (.deferred none)).cell;refine⟨.tuple #[.slice A xs.length cc, .bool (Lib.hasPrefix s.data.toList [47]), .bool (Lib.hasSuffix s.data.toList [47])],by simp[results,Tryz.f240,go_sem,hcb], .slice A xs.length cc,xs,by rw[LY,aK],?_,HS.out,JF (hb2.setCell (p:=⟨w.heap.size,0,none⟩) (At _) _) (by omega) _,A,cc,rfl,hccm⟩;have hrow':=ownsRow_putObj (ownsRow_setCell_below hr2 (a:=⟨w.heap.size,0,none⟩) (by show w.heap.size<_;omega) (.slice A xs.length cc)) (.deferred none) ((KeepsOthers.setCell _ _ _).same D _ hK2 rfl) rfl
  have hlen:xs.length≤few:=by
   have h2:=Tx s.data.toList;rw[←HS.out,←Lib.size_eq]at h2;simp[Cx]at h2;unfold few;omega
  refine OwnL.list (sz:=1) (cell:=Kl) (E:=9) (base:=WL.heap.size) ?_ hlen (fun b hb hlt=>⟨by omega,hlt⟩);unfold OwnL;rw[aL];exact hrow'
 case stop=>
  rintro D c pre W hD hSp h hK;exact h.elim
theorem aY(s:ByteArray)(w:World)(hs:s.size≤60000):Calls prog 240 #[.string s] w (Ty s.data.toList w):=
 callsIn_wide.1 (aW 6 (Lib.hid (by omega)) s w hs)
end Go.Proofs.YtbgnigjfkbmceaaGreatDoor
namespace Go.Proofs.YtbgnigjfkbmceaaGreatDoor
open Go.RowKit
theorem aZ{P:Program}{St:Nat→Nat→Prop}{w:World}(hst:∀b o,St b o→b<w.heap.size){T T' sz bytes:Nat}(hE:Hm P T=some (T',sz,bytes))(hby:bytes≤100000){rows new:List (List AV)}{A:Option Addr}{cap:Nat}{y:Value}
    (hs:Ag St w (.sl sz rows none) (.slice A rows.length cap)) (hy:Ag St w (.sl sz new none) y) (hsm:rows.length+new.length≤1000000) (rt:TypeId):
    ∃(v':Value) (w':World) (N:Nat→Nat→Prop),(Builtin.append_ #[T,T] rt #[.slice A rows.length rows.length,y]).run P w= .ok v' w'∧Below w.heap.size w w'∧(∀b o,N b o→w.heap.size≤b∧b<w'.heap.size)∧Ag (fun b o=>St b o∨N b o) w' (.sl sz (rows++new) none) v':=by
 obtain⟨hu,inf,z,hinf,hz,hzs,hsz,hbts,hp⟩:=Dp hE;obtain⟨A',cap',vs,e1,e2,e3,e4,e5⟩:=JU hy;obtain⟨A0,cap0,us,f1,f2,f3,f4,f5⟩:=JU hs;injection f1 with f1a f1b f1c;subst f1a;by_cases h0:new=[]
 ·subst h0;refine⟨.slice A rows.length rows.length,w,fun _ _=>False,?_,Below.refl _ _,fun _ _ h=>h.elim,?_⟩
  ·rw[e1];rcases A' with _|ad<;>rcases A with _|ad0<;>simp[Builtin.append_,run_underlying hu,sizeOf,typeInfo,hinf,Builtin.lenOf,Builtin.firstCells,storeCells,loadCells,loadCellsFrom]
  rw[List.append_nil]
  have k:Ag St w (.sl sz rows none) (.slice A rows.length rows.length):=by
   simp only[Ag]at hs ⊢;obtain⟨_,B,c,h1,h2,h3,h4⟩:=hs;injection h1 with h1 _ _;subst h1;exact⟨trivial,_,_,rfl,At _,Nat.le_trans h2 h3,h4⟩
  exact EL (fun b o hb=>⟨.inl hb,rfl⟩) _ _ k
 obtain⟨b,off,q1,q2⟩:=e5 h0;subst q1;rw[e1];have hnl:0<new.length:=List.length_pos_iff.2 h0;have hnews:∀j u,vs[j]?=some u→w.cell? ((⟨b,off,none⟩:Addr).add j)=some u:=fun j u hj=>by rw[Addr.add_mid];exact q2 j u hj
 have hbt:(rows.length+new.length) * bytes≤140737488355328:=by
  have:(rows.length+new.length) * bytes≤1000000 * 100000:=Nat.mul_le_mul hsm hby;omega
 have key:∃v' w',(Builtin.append_ #[T,T] rt #[.slice A rows.length rows.length, .slice (some ⟨b,off,none⟩) new.length cap']).run P w= .ok v' w'∧w'.ownsRow w.heap.size T' sz v' (rows.length+new.length) (us++vs)∧w.grownBy w' none:=by
  by_cases hr0:rows=[]
  ·subst hr0;have hus:us=[]:=Cj (by simpa using f4.1);subst hus;rcases A with _|ad
   ·obtain⟨v',w',r1,r2,r3,r4,r5⟩:=run_append_own_at (P:=P) w w.heap.size T rt T' inf z sz bytes hu hinf hz hsz hbts hzs hp (.slice none 0 0) 0 [] (World.ownsRow_nil w _ _ _) ⟨b,off,none⟩ new.length cap' vs (by rw[e4.1]) hnews e4.2.2.1 (by simp at hsm;unfold maxLen;omega) (by simpa using hbt) (At _);exact⟨v',w',by simpa using r1,by simpa using r2,by simpa[Value.ownBlock]using r3⟩
   obtain⟨v',w',r1,r2,r3⟩:=run_append_arg_grows (P:=P) w T rt T' inf z sz bytes hu hinf hz hsz hbts hzs hp ad 0 0 [] (by simp) (by simp) ⟨b,off,none⟩ new.length cap' vs (by rw[e4.1]) hnews (by omega) (by simp at hsm;unfold maxLen;omega) (by simpa using hbt);exact⟨v',w',by simpa using r1,by simpa using r2,r3⟩
  obtain⟨b0,off0,p1,p2⟩:=f5 hr0;subst p1;exact run_append_arg_grows (P:=P) w T rt T' inf z sz bytes hu hinf hz hsz hbts hzs hp ⟨b0,off0,none⟩ rows.length rows.length us (by rw[f4.1]) (fun j u hj=>by rw[Addr.add_mid];exact p2 j u hj) ⟨b,off,none⟩ new.length cap' vs (by rw[e4.1]) hnews (by omega) (by unfold maxLen;omega) hbt
 obtain⟨v',w',r1,r2,r3⟩:=key;have hbel:Below w.heap.size w w':=⟨r3.os,r3.tape,r3.output,r3.size,fun k hk=>r3.block k hk (by simp)⟩;have hlt:=World.ownsRow.lt r2;refine⟨v',w',fun b _=>v'.ownBlock=some b,r1,hbel,fun b o hb=>hlt b hb,?_⟩;have hflat:FlatR (fun b o=>St b o∨v'.ownBlock=some b) w' sz (rows++new) (us++vs):=(f4.append e4).mono fun b o hb=>⟨.inl hb,hbel.cell (p:=⟨b,o,none⟩) (hst b o hb)⟩;rcases r2.2 with⟨c1,c2⟩|⟨gb,cp,cur,c1,c2,c3,c4,c5,c6,c7⟩
 ·omega
 subst c1;simp only[Ag];refine⟨trivial,_,cp,by rw[List.length_append],by rw[List.length_append];exact c4,c5, .inr ⟨gb,0,rfl,hflat.froR fun j u hj=>⟨.inr rfl,?_⟩⟩⟩
 have hj2:j<(rows.length+new.length) * sz:=by
  have:=(Ah.1 hj).1
  rwa [r2.1]at this
 rw[Nat.zero_add];simp only[World.cell?,c3];rw[←c7,List.getElem?_take,if_pos hj2,Array.getElem?_toList]at hj
 simpa using hj
theorem Tz{a:Act}{d n:Nat}(v:Value)(hn:a.tmps.size=n)(hd:d<n):(a.put (some d) v).eval (.tmp d)=v:=by
 show(a.put (some d) v).tmps.getD d undef=v;simp[Act.put,hn,hd]
theorem b6{a:Act}{d t:Nat}(v:Value)(h:d≠t):(a.put (some d) v).eval (.tmp t)=a.eval (.tmp t):=by
 show(a.put (some d) v).tmps.getD t undef=a.tmps.getD t undef;simp[Act.put,Array.getElem?_setIfInBounds_ne h]
theorem b7{P:Program}{N:Dim}{ops:Array Oper}{Q:Exit→AS→Prop}{rest:List Oper}{l:List (Nat×AV)}{hh:AH}{d1 d2 d3:Nat}{ty1 ty2 ty3:TypeId}{pos1 pos2 pos3:String}{af1 af2 af3:Array Edge}{T:TypeId}{x hi mx y:Operand}{T' sz bytes:Nat}{rows new:List (List AV)}{tok tok':Option Nat}[hE:Elm P T T' sz bytes]{i j:Int}
    (h1:Nat.blt d1 N.n=true) (h2:Nat.blt d2 N.n=true) (h3:Nat.blt d3 N.n=true) (hne:Nat.beq d2 d1=false)
    (hx:Bz (look l) x=some (.sl sz rows tok)) (hhi:Bz (look l) hi=some (.v (.int .i64 i))) (hmx:Bz (look l) mx=some (.v (.int .i64 j))) (hi':i=(rows.length:Int)) (hj':j=(rows.length:Int)) (hy:Bz (look ((d1, .sl sz rows none)::l)) y=some (.sl sz new tok')) (hsm:rows.length+new.length≤1000000)
    (h:AL P N ops Q rest ⟨look ((d3, .sl sz (rows++new) none)::(d2, .sl sz new tok')::(d1, .sl sz rows none)::l),hh⟩):
    AL P N ops Q (⟨some d1, .slice T x none (some hi) (some mx),ty1,pos1,af1,none⟩::⟨some d2, .move y,ty2,pos2,af2,none⟩::⟨some d3, .call {callee:= .builtin .append,args:=#[.tmp d1, .tmp d2],argTypes:=#[T,T]},ty3,pos3,af3,none⟩::rest) ⟨look l,hh⟩:=by
 obtain⟨hu,inf,z,hinf,hz,hzs,hsz,hbts,hp⟩:=Dp hE.eq;intro E a w hr;obtain⟨G,g1,g2,g3,g4,g5⟩:=hr;have kx:=EM _ _ (g2.ev hx);have ki:=g2.ev hhi;have kj:=g2.ev hmx;simp only[CR]at kx;simp only[rep]at ki kj;subst hi' hj';obtain⟨A,cap,us,e1,e2,e3,e4,e5⟩:=JU kx;rw[e1]at kx;refine wpList_plain rfl fun K hK=>?_
 have run1:(execOp a.eval ⟨some d1, .slice T x none (some hi) (some mx),ty1,pos1,af1,none⟩).run P w= .ok (.value (.slice A rows.length rows.length)) w:=by
  have hA:Option.map (fun x:Addr=>x.add 0) A=A:=by cases A with
   |none=>rfl
   |some ad=>cases ad;rfl
  have e0:(if rows.length=0 then A else Option.map (fun x:Addr=>x.add 0) A)=A:=by rw[hA];split<;>rfl
  simp[execOp,e1,ki,kj,Instr.sliceAt,Instr.slice,Instr.sliceBounds,Instr.sliceBound,asIntOf,run_underlying hu,sizeOf,typeInfo,hinf,hsz,e2,hA]
 refine Li (E:=E) (w:=w) (R:=fun x' h'=>x'= .v (.slice A rows.length rows.length)∧h'=hh) (G:=G) ?_ ?_
 ·rw[run1];exact⟨_,_,G,⟨rfl,rfl⟩,g1,Ext.refl G w,by simp only[rep]⟩
 rintro v1 w1 ⟨x1,h1',G1,⟨rfl,rfl⟩,k1,k2,k3⟩;simp only[rep]at k3;subst k3;have kx1:Ag G1.St w1 (.sl sz rows none) (.slice A rows.length cap):=EL k2.st _ _ kx
 have kn1:Ag G1.St w1 (.sl sz rows none) (.slice A rows.length rows.length):=by
  have:=kx1;simp only[Ag]at this ⊢;obtain⟨_,B,c,q1,q2,q3,q4⟩:=this;injection q1 with q1 _ _;subst q1;exact⟨trivial,_,_,rfl,At _,Nat.le_trans q2 q3,q4⟩
 obtain⟨s1,s2,s3⟩:=g2.put (d:=some d1) (x:= .sl sz rows none) k2 g3 h1 (Eo _ _ kn1);apply hK;refine wpList_plain rfl fun K2 hK2=>?_;have ky:=s1.ev hy;refine Li (E:=E) (R:=fun x' h'=>x'= .sl sz new tok'∧h'=h1') (G:=G1) (w:=w1) (r:= .ok (.value ((a.put (some d1) (.slice A rows.length rows.length)).eval y)) w1) ⟨_,_,G1,⟨rfl,rfl⟩,k1,Ext.refl G1 w1,ky⟩ ?_;rintro v2 w2 ⟨x2,h2',G2,⟨rfl,rfl⟩,m1,m2,m3⟩;obtain⟨t1,t2,t3⟩:=s1.put (d:=some d2) (x:= .sl sz new tok') m2 s2 h2 m3;have kn2:Ag G2.St w2 (.sl sz rows none) (.slice A rows.length rows.length):=EL m2.st _ _ kn1;have ky2:=EM _ _ m3;simp only[CR]at ky2;apply hK2;refine wpList_plain rfl fun K3 hK3=>?_;obtain⟨v',w',Nw,r1,r2,r3,r4⟩:=aZ (P:=P) m1.stlt hE.eq hE.few kn2 ky2 hsm ty3;obtain⟨u1,u2⟩:=m1.grow r2 Nw r3;have hd12:d2≠d1:=fun e=>by rw[e,Nat.beq_refl]at hne;cases hne
 have q1:((a.put (some d1) (.slice A rows.length rows.length)).put (some d2) v2).eval (.tmp d1)= .slice A rows.length rows.length:=by
  rw[b6 _ hd12];exact Tz _ g3 (B8 h1)
 have q2:((a.put (some d1) (.slice A rows.length rows.length)).put (some d2) v2).eval (.tmp d2)=v2:=Tz _ s2 (B8 h2);refine Li (E:=E) (R:=fun x' h'=>x'= .sl sz (rows++new) none∧h'=h2') (G:=G2) (w:=w2) ?_ ?_
 ·simp only[execOp,resolve,invoke,builtin,Sem.run_bind,Sem.run_pure,Result.andThen_ok,List.map_toArray,List.map_cons,List.map_nil,q1,q2,r1];exact⟨_,_,_,⟨rfl,rfl⟩,u1,u2,Eo _ _ r4⟩
 rintro v3 w3 ⟨x3,h3',G3,⟨rfl,rfl⟩,n1,n2,n3⟩;obtain⟨o1,o2,o3⟩:=t1.put (d:=some d3) (x:= .sl sz (rows++new) none) n2 t2 h3 n3;apply hK3;exact h E _ w3 ⟨G3,n1,o1,o2,o3.trans (t3.trans (s3.trans g4)),g5⟩
theorem U0(s:AG)(hs:s.size≤60000):AFn prog 240 [.v (.string s)] (fun r=>r= .tup [.sl 1 ((CP s).map Ce) none, .v (.bool (Ca s)), .v (.bool (B7 s))]):=by
 intro w St bl vs hr hv;have hbl:bl=[]:=by have:=hr.bxlen;simpa using this
 subst hbl;simp only[AT,rep]at hv;obtain⟨z,zs,rfl,rfl,rfl⟩:=hv;refine(aY s w hs).mono ?_;rintro e w' ⟨v,ss,rfl,hv,hp,hB,A,c,rfl,hc⟩;obtain rfl:=Pn (ps:=ss) hp;obtain⟨k1,k2⟩:=hr.grow hB (fun b _=>Ob w w' b) (fun b _ hb=>hb);refine⟨_,_,_,_,⟨rfl,rfl,rfl⟩,k1,k2,?_⟩;simp only[rep,AT];refine⟨_,rfl,_,_,rfl,?_,_,_,rfl,rfl,_,_,rfl,rfl,rfl⟩;obtain⟨A',c',h1,h2,h3,h4⟩:=hv;injection h1 with h1 _ h1c;subst h1 h1c;simp only[Ag];refine⟨trivial,A,c,by rw[List.length_map],by rw[List.length_map];exact h2,hc,?_⟩;by_cases h0:(CP s).length=0
 ·exact .inl (by rw[Cj h0];rfl)
 obtain⟨b,off,rfl,hb,hcell⟩:=h4 (by omega);refine .inr ⟨b,off,rfl,KJ fun i r hi=>?_⟩;rw[List.getElem?_map]at hi
 cases hy:(CP s)[i]? with
 |none=>rw[hy]at hi;cases hi
 |some x=>
   rw[hy]at hi;injection hi with hi;subst hi;refine⟨rfl,JO fun j av hj=>?_⟩
   match j,hj with
   |0,hj=>
     injection hj with hj;subst hj;exact⟨.inr hb, .string x,hcell i x 0 hy (by omega),rfl,by simp only[Ag]⟩
   |j+1,hj=>simp[Ce]at hj
def Ek(f:AZ)(a:AA):Int:=match Bk f a with
 |none=>2
 |some n=>if n.kind=2 then 0 else 20
def FB(f:AZ)(a:AA)(name:AG):AA×Bool:=match Bk f a with
 |none=>((0,0),false)
 |some n=>match n.entries.find? (fun e:BF=>decide (e.1=name))with
   |none=>((0,0),false)
   |some e=>((a.1,e.2),true)
theorem b8{f:AZ}{a:AA}{name:AG}(h:¬Ek f a=0):AO f a name=((0,0),Ek f a):=by
 unfold Ek at h ⊢;unfold AO
 cases hn:Bk f a with
 |none=>rfl
 |some n=>
   simp only[hn]at h ⊢;by_cases hk:n.kind=2
   ·rw[if_pos hk]at h;exact absurd rfl h
   rw[if_neg hk,if_neg hk]
theorem b9{f:AZ}{a:AA}{name:AG}(h:Ek f a=0)(h2:(FB f a name).2=false):AO f a name=((0,0),2):=by
 unfold Ek at h;unfold FB at h2;unfold AO
 cases hn:Bk f a with
 |none=>rfl
 |some n=>
   simp only[hn]at h h2 ⊢;by_cases hk:n.kind=2
   ·rw[if_pos hk]
    cases hf:n.entries.find? (fun e:BF=>decide (e.1=name))with
    |none=>rfl
    |some e=>rw[hf]at h2;cases h2
   rw[if_neg hk]at h;exact absurd h (by decide)
theorem bA{f:AZ}{a:AA}{name:AG}(h:Ek f a=0)(h2:(FB f a name).2=true):AO f a name=((FB f a name).1,0):=by
 unfold Ek at h;unfold FB at h2 ⊢;unfold AO
 cases hn:Bk f a with
 |none=>rw[hn]at h2;cases h2
 |some n=>
   simp only[hn]at h h2 ⊢;by_cases hk:n.kind=2
   ·rw[if_pos hk]
    cases hf:n.entries.find? (fun e:BF=>decide (e.1=name))with
    |none=>rw[hf]at h2;cases h2
    |some e=>rfl
   rw[if_neg hk]at h;exact absurd h (by decide)
def Db(s:Spc)(fl:Bool)(w:Wk):List AV:=[.sl 2 (s.files.map Bi) none, .sl 3 (s.mounts.map Co) none, .sl 1 (w.ps.map Ce) none, .v (.int .i64 w.at_.1), .v (.int .i64 w.at_.2), .v (.int .i64 w.dir.1), .v (.int .i64 w.dir.2), .v (.string w.name), .v (.bool w.missing), .v (.bool fl), .v (.int .i64 (w.links:Int))]
theorem U1(d m:AG)(hd:d.size≤1000000)(hm:m.size≤1000000):AFn prog 268 [.v (.string d), .v (.string m)] (fun r=>r= .v (.string (Cl d m))):=
 MO (us:=[.string d, .string m]) fun w=>(TB d m w hd hm).mono fun e w' h=>by
  obtain⟨h1,rfl⟩:=h;exact⟨h1,Below.refl _ _⟩
theorem bB(t:AG):AFn prog 262 [.v (.string t), .v (.string ⟨#[47]⟩)] (fun r=>r= .v (.bool (Ca t))):=
 MO (us:=[.string t, .string ⟨#[47]⟩]) fun w=>(Tryz.strings_HasPrefix t ⟨#[47]⟩ w).mono fun e w' h=>by
  obtain⟨h1,rfl⟩:=h;refine⟨?_,Below.refl _ _⟩;rw[h1];unfold Ca;rw[←LY]
section
theorem bC(f:AZ)(a:AA)(hf:FlsB f):AFn prog 246 [.agg (Aq f), .agg (AD a)] (fun r=>r= .v (.int .i64 (Ek f a))):=by
 refine enter Tryz.func246 rfl rfl rfl rfl rfl 0 rfl ?_;refine w_ (b_ (h:=b_ (h:=a_ (h:=e_ (w_ (l_ (h:=l_ (h:=?_))))))));refine A6 rfl (AJ (OZ f a hf) ?_);rintro r (⟨e,rfl⟩|⟨n,e,rfl⟩)
 ·skip
  refine a_ (h:=e_ (q_ (Af (w_ (m_ (h:=?_))))))
  first|refine A6 rfl (Je (by kernel_rfl) rfl rfl ?_)|refine A6 rfl (Jf (by kernel_rfl) rfl rfl ?_)
  refine a_ (h:=e_ (?_));refine A9 rfl (fun hb1=>?_) (fun hb1=>?_)
  ·have hc1:=bp hb1;refine w_ (a_ (h:=e_ (A4 (AP (A7 (?_))))));refine A8 ?_;rw[show Ek f a=2 by simp only[Ek,e]];rfl
  have hc1:=bp hb1;exfalso;first|contradiction|omega
 skip
 refine a_ (h:=e_ (q_ (Af (w_ (m_ (h:=?_))))))
 first|refine A6 rfl (Je (by kernel_rfl) rfl rfl ?_)|refine A6 rfl (Jf (by kernel_rfl) rfl rfl ?_)
 refine a_ (h:=e_ (?_));refine A9 rfl (fun hb2=>?_) (fun hb2=>?_)
 ·have hc2:=bp hb2;exfalso;first|contradiction|omega
 have hc2:=bp hb2;refine w_ (m_ (h:=k_ (h:=f_ (h:=l_ (h:=Ao (h:=a_ (h:=e_ (?_))))))));refine A9 rfl (fun hb3=>?_) (fun hb3=>?_)
 ·have hc3:=bp hb3;refine w_ (a_ (h:=e_ (A4 (AP (A7 (?_))))));refine A8 ?_;rw[show Ek f a=20 by simp only[Ek,e];exact if_neg hc3];rfl
 have hc3:=bp hb3;refine Aw (Al (t_ (w_ (a_ (h:=e_ (A4 (?_)))))));refine A8 ?_;rw[show Ek f a=0 by simp only[Ek,e];exact if_pos hc3];rfl
theorem bD(f:AZ)(a:AA)(name:AG)(hf:FlsB f):AFn prog 247 [.agg (Aq f), .agg (AD a), .v (.string name)] (fun r=>r= .tup [.agg (AD (FB f a name).1), .v (.bool (FB f a name).2)]):=by
 have hen:=Kg hf a;refine enter Tryz.func247 rfl rfl rfl rfl rfl 0 rfl ?_;refine w_ (b_ (h:=b_ (h:=Ac (h:=a_ (h:=e_ (w_ (l_ (h:=l_ (h:=?_)))))))));refine A6 rfl (AJ (OZ f a hf) ?_);rintro r (⟨e,rfl⟩|⟨n,e,rfl⟩)
 ·skip
  refine a_ (h:=e_ (q_ (w_ (m_ (h:=?_)))))
  first|refine A6 rfl (Je (by kernel_rfl) rfl rfl ?_)|refine A6 rfl (Jf (by kernel_rfl) rfl rfl ?_)
  refine e_ (?_);refine A9 rfl (fun hb1=>?_) (fun hb1=>?_)
  ·have hc1:=bp hb1;refine w_ (Ab (h:=s_ (h:=a_ (h:=e_ (A4 (A7 (?_)))))));refine A8 ?_;rw[show FB f a name=((0,0),false) by simp only[FB,e]];rfl
  have hc1:=bp hb1;exfalso;first|contradiction|omega
 have hnl:n.entries.length≤1000:=by simpa[As,e]using hen
 refine a_ (h:=e_ (q_ (w_ (m_ (h:=?_)))))
 first|refine A6 rfl (Je (by kernel_rfl) rfl rfl ?_)|refine A6 rfl (Jf (by kernel_rfl) rfl rfl ?_)
 refine e_ (?_);refine A9 rfl (fun hb2=>?_) (fun hb2=>?_)
 ·have hc2:=bp hb2;exfalso;first|contradiction|omega
 have hc2:=bp hb2;refine AE (q_ (w_ (m_ (h:=k_ (h:=f_ (h:=l_ (h:=n_ (h:=m_ (h:=e_ (Af (?_)))))))))));refine BW (fun m t=>∃j:Nat,j≤n.entries.length∧m=n.entries.length - j∧(∀i y,i<j→n.entries[i]?=some y→decide (y.1=name)=false)∧t=⟨look [(2, .v (.string name)),(4, .bp 1 0),(6, .bp 2 0),(20, .sl 2 (n.entries.map CC) none),(21, .v (.int .i64 ((n.entries.map CC).length:Int))),(22, .v (.int .i64 (j:Int)))],⟨[Aq f,AD a,[.v (.int .i64 0), .v (.int .i64 0)]],[]⟩⟩) (n.entries.length) ((wk 3 0)) (⟨0,by omega,rfl,fun i y hi=>by omega,rfl⟩) ?_;rintro m t ⟨j,hj,rfl,ha,rfl⟩;refine w_ (B1 (h:=e_ (q_ (?_))));refine A9 rfl (fun hb3=>?_) (fun hb3=>?_)
 ·have hc3:=bp hb3;obtain⟨hlt,x,hy,hrow, -⟩:=Bv CC hc3;refine AE (q_ (Af (w_ (i_ (h:=l_ (h:=Ac (h:=s_ (h:=e_ (w_ (f_ (h:=l_ (h:=m_ (h:=AN (h:=e_ (?_)))))))))))))));refine A9 rfl (fun hb4=>?_) (fun hb4=>?_)
  ·have hc4:=bp hb4;refine w_ (f_ (h:=l_ (h:=f_ (h:=l_ (h:=Ab (h:=s_ (h:=a_ (h:=e_ (A4 (AP (A7 (A7 (AP (A7 (?_)))))))))))))));refine A8 ?_;rw[show FB f a name=((a.1,x.2),true) by simp only[FB,e];rw[GT hy (by simpa using hc4) ha]];rfl
  have hc4:=bp hb4;refine Aw (Al (t_ (AW (BE (h:=m_ (h:=AQ (?_)))))));refine AK ?_;refine⟨_,_,?_,⟨j+1,by omega,rfl,FO hy ha (by simpa using hc4),rfl⟩,(wk 3 0)⟩;omega
 have hc3:=bp hb3;have e3:=CM CC hj hc3;subst e3;refine BL (Ai (Ai (BM (t_ (w_ (Ab (h:=s_ (h:=a_ (h:=e_ (A4 (?_)))))))))));refine A8 ?_;rw[show FB f a name=((0,0),false) by simp only[FB,e];rw[GU ha]];rfl
theorem Py(f:AZ)(a:AA)(name:AG)(hf:FlsB f):AFn prog 188 [.agg (Aq f), .agg (AD a), .v (.string name)] (fun r=>r= .tup [.agg (AD (AO f a name).1), .v (.int .i64 (AO f a name).2)]):=by
 refine enter Tryz.func188 rfl rfl rfl rfl rfl 0 rfl ?_;refine w_ (b_ (h:=b_ (h:=Ac (h:=a_ (h:=e_ (q_ (w_ (l_ (h:=l_ (h:=?_))))))))));refine A6 rfl (AJ (bC f a hf) ?_);rintro r rfl;refine a_ (h:=e_ (w_ (m_ (h:=Ao (h:=e_ (?_))))));refine A9 rfl (fun hb1=>?_) (fun hb1=>?_)
 ·have hc1:=bp hb1;refine w_ (Ab (h:=m_ (h:=s_ (h:=a_ (h:=e_ (A4 (A7 (?_))))))));refine A8 ?_;rw[b8 hc1];rfl
 have hc1:=bp hb1;refine AE (w_ (l_ (h:=l_ (h:=m_ (h:=?_)))));refine A6 rfl (AJ (bD f a name hf) ?_);rintro r rfl;refine m_ (h:=x_ (h:=x_ (h:=Ac (h:=s_ (h:=a_ (h:=e_ (q_ (w_ (m_ (h:=BB (h:=e_ (?_))))))))))));refine A9 rfl (fun hb2=>?_) (fun hb2=>?_)
 ·have hc2:=bp hb2;refine w_ (Ab (h:=s_ (h:=a_ (h:=e_ (A4 (A7 (?_)))))));refine A8 ?_;rw[b9 hc1 (by simpa using hc2)];rfl
 have hc2:=bp hb2;refine AE (w_ (l_ (h:=s_ (h:=a_ (h:=e_ (A4 (?_)))))));refine A8 ?_;rw[bA hc1 (by simpa using hc2)];rfl
theorem U2(s:Spc)(hs:SpcB s):AFn prog 241 [.agg (Aj s)] (fun r=>r= .agg (AD (Cq s))):=by
 refine enter Tryz.func241 rfl rfl rfl rfl rfl 0 rfl ?_;refine w_ (b_ (h:=Ac (h:=e_ (w_ (l_ (h:=Ab (h:=?_)))))));refine A6 rfl (AJ (OY s (0,1) hs) ?_);rintro r rfl;refine s_ (h:=e_ (A4 (?_)));refine A8 ?_;rfl
theorem Pz(s:Spc)(fl:Bool)(w:Wk)(hs:SpcB s):AFn prog 242 [.fp (Db s fl w)] (fun r=>r= .v (.bool (Am s.files w.at_))):=by
 have hde:=FQ s.files w.at_;refine enter Tryz.func242 rfl rfl rfl rfl rfl 0 rfl ?_;refine w_ (a_ (h:=e_ (q_ (CE ([]) 16 (h:=Ap 0 (h:=Dj 1 (h:=Ay 2 (h:=Ay 3 (h:=AY 4 (h:=Ap 5 (h:=Dj 6 (h:=Ay 7 (h:=AY 8 (h:=?_))))))))))))));refine Gs 9 13 rfl rfl ?_ ?_
 ·refine AJ (G5 s.files w.at_ hs.files) ?_;rintro r rfl;refine o_ (h:=?_);refine Ap 10 (h:=C2 11 (h:=C2 12 (h:=?_)));refine c_ 13 rfl (Dx (by repeat constructor) ?_);refine o_ (h:=?_);refine Bm 14 rfl (Bd rfl rfl rfl rfl rfl rfl (by repeat constructor) (by repeat constructor) ?_);refine o_ (h:=BN 15 (h:=z_ (h:=t_ (w_ (m_ (h:=m_ (h:=?_)))))));refine AR true rfl rfl (fun hb1=>?_) (fun hb1=>?_)
  ·have hc1:=bp hb1;refine f_ (h:=l_ (h:=AN (h:=AB (h:=a_ (h:=e_ (A4 (?_)))))));refine A8 ?_
   first|(rw[hde,hb1];rfl)|(rw[hde,hb2];rfl)
  have hc1:=bp hb1;refine A3 (h:=A3 (h:=A3 (h:=AF (h:=a_ (h:=e_ (A4 (?_)))))));refine A8 ?_
  first|(rw[hde,hb1];rfl)|(rw[hde,hb2];rfl)
 refine Dx (by repeat constructor) ?_;refine o_ (h:=?_);refine c_ 9 rfl (AJ (G5 s.files w.at_ hs.files) ?_);rintro r rfl;refine o_ (h:=Ap 10 (h:=C2 11 (h:=C2 12 (h:=?_))));refine Bm 14 rfl (Bd rfl rfl rfl rfl rfl rfl (by repeat constructor) (by repeat constructor) ?_);refine o_ (h:=BN 15 (h:=z_ (h:=t_ (w_ (m_ (h:=m_ (h:=?_)))))));refine AR true rfl rfl (fun hb2=>?_) (fun hb2=>?_)
 ·have hc2:=bp hb2;refine f_ (h:=l_ (h:=AN (h:=AB (h:=a_ (h:=e_ (A4 (?_)))))));refine A8 ?_
  first|(rw[hde,hb1];rfl)|(rw[hde,hb2];rfl)
 have hc2:=bp hb2;refine A3 (h:=A3 (h:=A3 (h:=AF (h:=a_ (h:=e_ (A4 (?_)))))));refine A8 ?_
 first|(rw[hde,hb1];rfl)|(rw[hde,hb2];rfl)
theorem bF(s:Spc)(fl sl:Bool)(w:Wk)(hs:SpcN s)(hw:∀a,(BZ s a).1.size≤1000)(hn:w.name.size≤1000000):AFn prog 244 [.fp (Db s fl w), .v (.bool sl)] (fun r=>r= .agg (Dh (FA s sl w))):=by
 refine enter Tryz.func244 rfl rfl rfl rfl rfl 0 rfl ?_;refine w_ (Ac (h:=e_ (q_ (CE ([(0,Dh DE)]) 17 (h:=Ap 0 (h:=Dj 1 (h:=Ay 2 (h:=AY 3 (h:=Ap 4 (h:=Dj 5 (h:=Ay 6 (h:=AY 7 (h:=Ap 8 (h:=Dj 9 (h:=Ay 10 (h:=AY 11 (h:=RD 12 (h:=Ap 13 (h:=GO 14 (h:=?_))))))))))))))))))));refine c_ 15 rfl (Dx (by repeat constructor) ?_);refine o_ (h:=?_);refine Bm 16 rfl (Bd rfl rfl rfl rfl rfl rfl (by repeat constructor) (by repeat constructor) ?_);refine o_ (h:=z_ (h:=t_ (q_ (w_ (m_ (h:=k_ (h:=f_ (h:=l_ (h:=AN (h:=e_ (?_)))))))))));refine A9 rfl (fun hb1=>?_) (fun hb1=>?_)
 ·have hc1:=bp hb1;refine q_ (CE ([(0,Dh DE)]) 12 (h:=Ap 0 (h:=Dj 1 (h:=Ay 2 (h:=AY 3 (h:=Ap 4 (h:=Dj 5 (h:=Ay 6 (h:=AY 7 (h:=Ay 8 (h:=?_)))))))))));refine Bm 9 rfl (Bd rfl rfl rfl rfl rfl rfl (by repeat constructor) (by repeat constructor) ?_);refine o_ (h:=Ay 10 (h:=?_));refine Bm 11 rfl (Bd rfl rfl rfl rfl rfl rfl (by repeat constructor) (by repeat constructor) ?_);refine o_ (h:=z_ (h:=t_ (q_ (CE ([(0,Dh DE)]) 12 (h:=Ap 0 (h:=Dj 1 (h:=Ay 2 (h:=AY 3 (h:=Ay 4 (h:=?_))))))))));refine c_ 5 rfl (EN rfl rfl rfl ?_);refine o_ (h:=?_);refine c_ 6 rfl (AJ (PZ hs w.at_) ?_);rintro r rfl;refine o_ (h:=Ap 7 (h:=C2 8 (h:=C2 9 (h:=Ay 10 (h:=?_)))));refine Bm 11 rfl (Bd rfl rfl rfl rfl rfl rfl (by repeat constructor) (by repeat constructor) ?_);refine o_ (h:=z_ (h:=t_ (w_ (l_ (h:=s_ (h:=e_ (A4 (A7 (?_)))))))));refine A8 ?_;rw[show FA s sl w=⟨w.at_,⟨#[]⟩,w.at_, !w.missing,sl,(BZ s w.at_).1⟩ from if_pos hc1,hc1];rfl
 have hc1:=bp hb1;refine AE (q_ (w_ (f_ (h:=l_ (h:=e_ (?_))))));refine A9 rfl (fun hb2=>?_) (fun hb2=>?_)
 ·have hc2:=bp hb2;refine AW (m_ (h:=k_ (h:=f_ (h:=l_ (h:=f_ (h:=s_ (h:=e_ (q_ (q_ (D7 12 (h:=Ap 0 (h:=Dj 1 (h:=Ay 2 (h:=AY 3 (h:=Ay 4 (h:=AY 5 (h:=?_)))))))))))))))));refine c_ 6 rfl (AJ (PZ hs w.dir) ?_);rintro r rfl;refine o_ (h:=Ap 7 (h:=C2 8 (h:=C2 9 (h:=BN 10 (h:=BN 11 (h:=z_ (h:=t_ (w_ (m_ (h:=e_ (?_)))))))))));refine A9 rfl (fun hb3=>?_) (fun hb3=>?_)
  ·have hc3:=bp hb3;refine AW (m_ (h:=f_ (h:=l_ (h:=?_))));refine A6 rfl (AJ (U1 (BZ s w.dir).1 w.name (by have:=hw w.dir;omega) hn) ?_);rintro r rfl;refine f_ (h:=s_ (h:=e_ (w_ (l_ (h:=s_ (h:=e_ (A4 (?_))))))));refine A8 ?_;rw[show FA s sl w=⟨w.dir,w.name,w.at_, !w.missing,sl,Cl (BZ s w.dir).1 w.name⟩ by unfold FA;rw[if_neg hc1,if_neg (by simp[hc2]),if_pos hc3]];rfl
  have hc3:=bp hb3;refine AE (w_ (l_ (h:=s_ (h:=e_ (A4 (?_))))));refine A8 ?_;rw[show FA s sl w=⟨w.dir,w.name,w.at_, !w.missing,sl,⟨#[]⟩⟩ by unfold FA;rw[if_neg hc1,if_neg (by simp[hc2]),if_neg (by simp[hc3])]];rfl
 have hc2:=bp hb2;refine AE (q_ (q_ (D7 12 (h:=Ap 0 (h:=Dj 1 (h:=Ay 2 (h:=AY 3 (h:=Ay 4 (h:=AY 5 (h:=?_))))))))));refine c_ 6 rfl (AJ (PZ hs w.dir) ?_);rintro r rfl;refine o_ (h:=Ap 7 (h:=C2 8 (h:=C2 9 (h:=BN 10 (h:=BN 11 (h:=z_ (h:=t_ (w_ (m_ (h:=e_ (?_)))))))))));refine A9 rfl (fun hb4=>?_) (fun hb4=>?_)
 ·have hc4:=bp hb4;refine AW (m_ (h:=f_ (h:=l_ (h:=?_))));refine A6 rfl (AJ (U1 (BZ s w.dir).1 w.name (by have:=hw w.dir;omega) hn) ?_);rintro r rfl;refine f_ (h:=s_ (h:=e_ (w_ (l_ (h:=s_ (h:=e_ (A4 (?_))))))));refine A8 ?_;rw[show FA s sl w=⟨w.dir,w.name,(0,0), !w.missing,sl,Cl (BZ s w.dir).1 w.name⟩ by unfold FA;rw[if_neg hc1,if_pos (by simp[hc2]),if_pos hc4]];rfl
 have hc4:=bp hb4;refine AE (w_ (l_ (h:=s_ (h:=e_ (A4 (?_))))));refine A8 ?_;rw[show FA s sl w=⟨w.dir,w.name,(0,0), !w.missing,sl,⟨#[]⟩⟩ by unfold FA;rw[if_neg hc1,if_pos (by simp[hc2]),if_neg (by simp[hc4])]];rfl
end
end Go.Proofs.YtbgnigjfkbmceaaGreatDoor
