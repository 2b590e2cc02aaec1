/-
  Part 4 of the proof of FilterContextsP: what the statement's proof uses of the texts in wip/tpl.
-/
import Derived.WalkKit
import Derived.Test.YtbgnigjfkbmceaaGreatDoorQb3
open Go.Proofs.Tryz (prog)
set_option maxRecDepth 10000
set_option maxHeartbeats 4000000
set_option linter.unusedVariables false
set_option linter.unusedSimpArgs false
namespace Go.Proofs.YtbgnigjfkbmceaaGreatDoor
open Go.RowKit
section
variable {P:Program}{N:Dim}{Q:Exit→AS→Prop}{S:AH→Prop}{tl fuel:Nat}{l:List Oper}{listed:Array Bool}{m:List (Nat×AV)}{h:AH}
theorem Vy{i j di dj:Nat}{op op':Op}{ty ty':TypeId}{pos pos':String}{af af':Array Edge}{gd gd':Option (Nat×Bool)}(hr:Region.ready .any l.toArray listed=[i,j])
    (hi:l[i]?=some ⟨some di,op,ty,pos,af,gd⟩) (hdi:Nat.blt di N.n=true) (hwi:CE l.toArray (look m) ⟨some di,op,ty,pos,af,gd⟩=some true)
    (hj:l[j]?=some ⟨some dj,op',ty',pos',af',gd'⟩) (hdj:Nat.blt dj N.n=true) (hwj:CE l.toArray (look m) ⟨some dj,op',ty',pos',af',gd'⟩=some true)
    (H1:AStep P ⟨some di,op,ty,pos,af,gd⟩ (C2 (look m)) h (fun x h'=>(Nat.ble tl i=true∨S h')∧AAny P N l.toArray Q S tl fuel (listed.setIfInBounds i true) ⟨look ((di,x)::m),h'⟩))
    (H2:AStep P ⟨some dj,op',ty',pos',af',gd'⟩ (C2 (look m)) h (fun x h'=>(Nat.ble tl j=true∨S h')∧AAny P N l.toArray Q S tl fuel (listed.setIfInBounds j true) ⟨look ((dj,x)::m),h'⟩)):AAny P N l.toArray Q S tl (fuel+1) listed ⟨look m,h⟩:=by
 refine⟨(fun h0=>by rw[hr]at h0;cases h0),fun k hk=>?_⟩;rw[hr]at hk;have hk':k=i∨k=j:=by simpa using hk
 rcases hk' with rfl|rfl
 ·unfold AOp;simp only[G8 hi];exact⟨hdi,true,hwi,fun _=>H1,fun h=>by cases h⟩
 unfold AOp;simp only[G8 hj];exact⟨hdj,true,hwj,fun _=>H2,fun h=>by cases h⟩
end
section
variable {P:Program}{N:Dim}{Q:Exit→AS→Prop}{s:AS}
def AC(P:Program)(N:Dim)(y:Code)(Q:Exit→AS→Prop)(s:AS):Prop:=Bn P N y Q s
theorem q_{x y:Code}(h:Bn P N x (F1 (AC P N y Q) Q) s):Bn P N (.seq x y) Q s:=by
 intro E a w hr;refine wp_seq (wp_mono (h E a w hr) ?_);rintro e a' w' ⟨s',hq,hr'⟩
 cases e with
 |normal=>exact hq E a' w' hr'
 |exit id=>exact⟨s',hq,hr'⟩
 |goto l=>exact⟨s',hq,hr'⟩
 |ret=>exact⟨s',hq,hr'⟩
 |panic c=>exact⟨s',hq,hr'⟩
 |outgrown=>exact⟨s',hq,hr'⟩
theorem w_{id:Nat}{l:List Oper}{y:Code}(h:AL P N l.toArray (F1 (AC P N y Q) Q) l s):Bn P N (.seq (.region id l.toArray false) y) Q s:=q_ (AR h)
theorem t_{y:Code}(h:Bn P N y Q s):F1 (AC P N y Q) Q .normal s:=h
theorem e_{ops:Array Oper}{y:Code}(h:Bn P N y Q s):AL P N ops (F1 (AC P N y Q) Q) [] s:=AP h
theorem AD{y:Code}(h:Bn P N y Q s):Bn P N .skip (F1 (AC P N y Q) Q) s:=Aq h
theorem B6{c:Operand}{x y:Code}{t:Bool}(hc:C2 s.sl c=some (.v (.bool t)):=by rfl)(ht:t=true:=by first|rfl|assumption|simp[*])(h:Bn P N x Q s):Bn P N (.cond c x y) Q s:=Vc hc ht h
theorem Bj{c:Operand}{x y:Code}{t:Bool}(hc:C2 s.sl c=some (.v (.bool t)):=by rfl)(ht:t=false:=by first|rfl|assumption|simp[*])(h:Bn P N y Q s):Bn P N (.cond c x y) Q s:=Vd hc ht h
end
section
variable {P:Program}{N:Dim}{Q:Exit→AS→Prop}{ops:Array Oper}{rest:List Oper}{l:List (Nat×AV)}{hh:AH}{op:Op}{ty:TypeId}{pos:String}{af:Array Edge}
theorem A3{d j:Nat}{want t:Bool}(hd:Nat.blt d N.n=true:=by rfl)(hy:yv ops (look l) j=some (some t):=by rfl)(ht:(t==want)=false:=by first|rfl|exact R4 ‹_›|exact R5 ‹_›|simp[*])(h:AL P N ops Q rest ⟨look ((d, .v undef)::l),hh⟩):AL P N ops Q (⟨some d,op,ty,pos,af,some (j,want)⟩::rest) ⟨look l,hh⟩:=Ve hd hy ht h
theorem AW{d j:Nat}{want:Bool}(hd:Nat.blt d N.n=true:=by rfl)(hy:yv ops (look l) j=some none:=by rfl)(h:AL P N ops Q rest ⟨look ((d, .v undef)::l),hh⟩):AL P N ops Q (⟨some d,op,ty,pos,af,some (j,want)⟩::rest) ⟨look l,hh⟩:=Vf hd hy h
end
def KB:List (Nat×List AV)→AH→Prop
 |[],_=>True
 |(i,r)::l,h=>h.bx[i]?=some r∧KB l h
def OZ:List (Nat×List AV)→Nat→Option (List AV)
 |[],_=>none
 |(i,r)::l,j=>match Nat.beq i j with
   |true=>some r
   |false=>OZ l j
theorem kb:∀{l:List (Nat×List AV)} {h:AH} {i:Nat} {row:List AV},KB l h→OZ l i=some row→h.bx[i]?=some row
 |[],_,_,_,_,e=>by cases e
 |(j,r)::l,h,i,row,k,e=>by
   unfold OZ at e;split at e
   ·rename_i hb;have:=Nat.eq_of_beq_eq_true hb;subst this;injection e with e;subst e;exact k.1
   exact kb k.2 e
theorem Kq(h:AH):KB [] h:=trivial
theorem Kr{l:List (Nat×List AV)}{h:AH}{i:Nat}{r:List AV}(h1:h.bx[i]?=some r)(h2:KB l h):KB ((i,r)::l) h:=⟨h1,h2⟩
def Do(_i:Nat)(B A:Prop):Prop:=B→A
section
variable {P:Program}{N:Dim}{l:List Oper}{Q:Exit→AS→Prop}{S:AH→Prop}{tl fuel:Nat}{listed:Array Bool}{m:List (Nat×AV)}{hh:AH}{op:Op}{ty:TypeId}{pos:String}{af:Array Edge}{gd:Option (Nat×Bool)}
theorem CL{i d:Nat}{x:AV}(hi:l[i]?=some ⟨some d,op,ty,pos,af,gd⟩)(hst:AStep P ⟨some d,op,ty,pos,af,gd⟩ (C2 (look m)) hh (fun x' h'=>x'=x∧h'=hh))(hd:Nat.blt d N.n=true:=by rfl)(htl:(G7 l.toArray tl listed&& !Nat.ble tl i&&Region.free .any l.toArray listed i&&(Region.ready .any l.toArray listed).contains i)=true:=by kernel_rfl)
    (hw:CE l.toArray (look m) ⟨some d,op,ty,pos,af,gd⟩=some true:=by first|rfl|exact AQ rfl rfl (BC ‹_›)|exact AQ rfl rfl (BD ‹_›)|exact AQ rfl rfl (by simp[*])):
    Do i (AAny P N l.toArray Q (fun h'=>h'=hh) tl fuel (listed.setIfInBounds i true) ⟨look ((d,x)::m),hh⟩) (AAny P N l.toArray Q (fun h'=>h'=hh) tl (fuel+1) listed ⟨look m,hh⟩):=fun H=>Qe hi hd htl hw hst H
theorem CM{K:List (Nat×List AV)}{i d:Nat}{x:AV}(hi:l[i]?=some ⟨some d,op,ty,pos,af,gd⟩)(hst:∀h,KB K h→AStep P ⟨some d,op,ty,pos,af,gd⟩ (C2 (look m)) h (fun x' h'=>x'=x∧h'=h))(hd:Nat.blt d N.n=true:=by rfl)(htl:(G7 l.toArray tl listed&& !Nat.ble tl i&&Region.free .any l.toArray listed i&&(Region.ready .any l.toArray listed).contains i)=true:=by kernel_rfl)
    (hw:CE l.toArray (look m) ⟨some d,op,ty,pos,af,gd⟩=some true:=by first|rfl|exact AQ rfl rfl (BC ‹_›)|exact AQ rfl rfl (BD ‹_›)|exact AQ rfl rfl (by simp[*])) (hS:KB K hh:=by repeat (first|exact Kq _|refine Kr rfl ?_)):
    Do i (AAny P N l.toArray Q (KB K) tl fuel (listed.setIfInBounds i true) ⟨look ((d,x)::m),hh⟩) (AAny P N l.toArray Q (KB K) tl (fuel+1) listed ⟨look m,hh⟩):=fun H=>BO hi hd htl hw hst hS H
theorem BN{K:List (Nat×List AV)}(i:Nat){d:Nat}{x:AV}(hi:l[i]?=some ⟨some d,op,ty,pos,af,gd⟩)(hst:∀h,KB K h→AStep P ⟨some d,op,ty,pos,af,gd⟩ (C2 (look m)) h (fun x' h'=>x'=x∧h'=h))(H:AAny P N l.toArray Q (KB K) tl fuel (listed.setIfInBounds i true) ⟨look ((d,x)::m),hh⟩)(hd:Nat.blt d N.n=true:=by rfl)(htl:(G7 l.toArray tl listed&& !Nat.ble tl i&&Region.free .any l.toArray listed i&&(Region.ready .any l.toArray listed).contains i)=true:=by kernel_rfl)
    (hw:CE l.toArray (look m) ⟨some d,op,ty,pos,af,gd⟩=some true:=by first|rfl|exact AQ rfl rfl (BC ‹_›)|exact AQ rfl rfl (BD ‹_›)|exact AQ rfl rfl (by simp[*])) (hS:KB K hh:=by repeat (first|exact Kq _|refine Kr rfl ?_)):AAny P N l.toArray Q (KB K) tl (fuel+1) listed ⟨look m,hh⟩:=BO hi hd htl hw hst hS H
theorem B5(i:Nat){d:Nat}(hi:l[i]?=some ⟨some d,op,ty,pos,af,gd⟩:=by rfl)(hd:Nat.blt d N.n=true:=by rfl)(htl:(G7 l.toArray tl listed&& !Nat.ble tl i&&Region.free .any l.toArray listed i&&(Region.ready .any l.toArray listed).contains i)=true:=by kernel_rfl)
    (hw:CE l.toArray (look m) ⟨some d,op,ty,pos,af,gd⟩=some false:=by first|rfl|exact O1 rfl rfl (R4 ‹_›)|exact O1 rfl rfl (R5 ‹_›)|exact VJ rfl rfl|exact O1 rfl rfl (by simp[*]))
    (hS:S hh:=by first|rfl|(repeat (first|exact Kq _|refine Kr rfl ?_))) (h:AAny P N l.toArray Q S tl fuel (listed.setIfInBounds i true) ⟨look ((d, .v undef)::m),hh⟩):AAny P N l.toArray Q S tl (fuel+1) listed ⟨look m,hh⟩:=VC hi hd htl hw hS h
theorem c_(i:Nat){d:Nat}(hi:l[i]?=some ⟨some d,op,ty,pos,af,gd⟩)(H:AStep P ⟨some d,op,ty,pos,af,gd⟩ (C2 (look m)) hh (fun x h'=>(Nat.ble tl i=true∨S h')∧AAny P N l.toArray Q S tl fuel (listed.setIfInBounds i true) ⟨look ((d,x)::m),h'⟩))(hd:Nat.blt d N.n=true:=by rfl)(hr:Region.ready .any l.toArray listed=[i]:=by kernel_rfl)
    (hw:CE l.toArray (look m) ⟨some d,op,ty,pos,af,gd⟩=some true:=by first|rfl|exact AQ rfl rfl (BC ‹_›)|exact AQ rfl rfl (BD ‹_›)|exact AQ rfl rfl (by simp[*])):AAny P N l.toArray Q S tl (fuel+1) listed ⟨look m,hh⟩:=VE hi hd hr hw H
theorem Bd(i:Nat)(hi:l[i]?=some ⟨none,op,ty,pos,af,gd⟩)(H:AStep P ⟨none,op,ty,pos,af,gd⟩ (C2 (look m)) hh (fun _ h'=>(Nat.ble tl i=true∨S h')∧AAny P N l.toArray Q S tl fuel (listed.setIfInBounds i true) ⟨look m,h'⟩))(hr:Region.ready .any l.toArray listed=[i]:=by kernel_rfl)
    (hw:CE l.toArray (look m) ⟨none,op,ty,pos,af,gd⟩=some true:=by first|rfl|exact AQ rfl rfl (BC ‹_›)|exact AQ rfl rfl (BD ‹_›)|exact AQ rfl rfl (by simp[*])):AAny P N l.toArray Q S tl (fuel+1) listed ⟨look m,hh⟩:=VF hi hr hw H
theorem GH(i j:Nat){di dj:Nat}{op':Op}{ty':TypeId}{pos':String}{af':Array Edge}{gd':Option (Nat×Bool)}(hi:l[i]?=some ⟨some di,op,ty,pos,af,gd⟩)(hj:l[j]?=some ⟨some dj,op',ty',pos',af',gd'⟩)
    (H1:AStep P ⟨some di,op,ty,pos,af,gd⟩ (C2 (look m)) hh (fun x h'=>(Nat.ble tl i=true∨S h')∧AAny P N l.toArray Q S tl fuel (listed.setIfInBounds i true) ⟨look ((di,x)::m),h'⟩))
    (H2:AStep P ⟨some dj,op',ty',pos',af',gd'⟩ (C2 (look m)) hh (fun x h'=>(Nat.ble tl j=true∨S h')∧AAny P N l.toArray Q S tl fuel (listed.setIfInBounds j true) ⟨look ((dj,x)::m),h'⟩))
    (hdi:Nat.blt di N.n=true:=by rfl) (hdj:Nat.blt dj N.n=true:=by rfl) (hr:Region.ready .any l.toArray listed=[i,j]:=by kernel_rfl)
    (hwi:CE l.toArray (look m) ⟨some di,op,ty,pos,af,gd⟩=some true:=by first|rfl|exact AQ rfl rfl (BC ‹_›)|exact AQ rfl rfl (BD ‹_›)|exact AQ rfl rfl (by simp[*]))
    (hwj:CE l.toArray (look m) ⟨some dj,op',ty',pos',af',gd'⟩=some true:=by first|rfl|exact AQ rfl rfl (BC ‹_›)|exact AQ rfl rfl (BD ‹_›)|exact AQ rfl rfl (by simp[*])):AAny P N l.toArray Q S tl (fuel+1) listed ⟨look m,hh⟩:=Vy hr hi hdi hwi hj hdj hwj H1 H2
theorem o_{i:Nat}{A:Prop}{h':AH}(hS:Nat.ble tl i=true∨S h':=by first|exact .inl rfl|exact .inr rfl|exact .inr (by repeat (first|exact Kq _|refine Kr rfl ?_)))(h:A):(Nat.ble tl i=true∨S h')∧A:=⟨hS,h⟩
theorem z_(hr:Region.ready .any l.toArray listed=[]:=by kernel_rfl)(h:Q .normal ⟨look m,hh⟩):AAny P N l.toArray Q S tl fuel listed ⟨look m,hh⟩:=VH hr h fuel
theorem Cj(tl:Nat){id:Nat}(hm:P.follows .mixedOrders=true:=by kernel_rfl)(h:AAny P N l.toArray Q (fun h'=>h'=hh) tl l.length (Array.replicate l.length false) ⟨look m,hh⟩):Bn P N (.region id l.toArray true) Q ⟨look m,hh⟩:=VG tl hm h
theorem C3(K:List (Nat×List AV))(tl:Nat){id:Nat}(hm:P.follows .mixedOrders=true:=by kernel_rfl)(h:AAny P N l.toArray Q (KB K) tl l.length (Array.replicate l.length false) ⟨look m,hh⟩):Bn P N (.region id l.toArray true) Q ⟨look m,hh⟩:=Jk _ tl hm h
end
section
variable {P:Program}{rs:List ResultVar}{n:Nat}{R:AV→List (List AV)→List C8→Prop}{s:AS}{xs:List AV}{r:AV}
theorem Av(g:Option Nat){tk':List C8}(h1:ResA P s rs xs:=by repeat (first|exact ResA.nil|(apply ResA.tmp;(focus exact rfl))|(apply ResA.cellN;(focus exact inferInstance);(focus exact rfl);(focus exact rfl);(focus exact rfl))|(apply ResA.cell1;(focus exact inferInstance);(focus exact rfl);(focus exact rfl);(focus exact rfl))))(h2:Ha s.h.tk g=some tk':=by rfl)(h3:BA n 1 (Cw g (Du xs))=true:=by rfl)(h4:BK n 0 (s.h.bx.take n)=true:=by rfl)(h5:LeA (Cw g (Du xs)) r)(h6:R r (s.h.bx.take n) tk'):Hb P rs n R .ret s:=ML g h1 h2 h3 h4 h5 h6
theorem Oa(g:Option Nat){tk':List C8}(h1:ResA P s rs xs:=by repeat (first|exact ResA.nil|(apply ResA.tmp;(focus exact rfl))|(apply ResA.cellN;(focus exact inferInstance);(focus exact rfl);(focus exact rfl);(focus exact rfl))|(apply ResA.cell1;(focus exact inferInstance);(focus exact rfl);(focus exact rfl);(focus exact rfl))))(h2:Ha s.h.tk g=some tk':=by rfl)(h3:BA n 1 (Cw g (Du xs))=true:=by rfl)(h4:BK n 0 (s.h.bx.take n)=true:=by rfl)(h5:LeA (Cw g (Du xs)) r)(h6:R r (s.h.bx.take n) tk'):Hb P rs n R .normal s:=VX g h1 h2 h3 h4 h5 h6
end
theorem m_{A B:Prop}(k:B→A:=by intro b;first|exact A6 rfl (EK rfl b)|exact B2 (EK rfl b))(h:B):A:=k h
theorem Ac(i:Nat){A B:Prop}(k:Do i B A:=by first|exact CL rfl (EK rfl ⟨rfl,rfl⟩)|exact CM rfl (fun _ _=>EK rfl ⟨rfl,rfl⟩))(h:B):A:=k h
theorem a_{A B:Prop}(k:B→A:=by intro b;first|exact A6 rfl (H9 rfl b)|exact B2 (H9 rfl b))(h:B):A:=k h
theorem BL(i:Nat){A B:Prop}(k:Do i B A:=by first|exact CL rfl (H9 rfl ⟨rfl,rfl⟩)|exact CM rfl (fun _ _=>H9 rfl ⟨rfl,rfl⟩))(h:B):A:=k h
theorem f_{A B:Prop}(k:B→A:=by intro b;first|exact A6 rfl (E0 rfl b)|exact A6 rfl (GB rfl b)|exact B2 (E0 rfl b)|exact B2 (GB rfl b))(h:B):A:=k h
theorem Aw(i:Nat){A B:Prop}(k:Do i B A:=by first|exact CL rfl (E0 rfl ⟨rfl,rfl⟩)|exact CL rfl (GB rfl ⟨rfl,rfl⟩)|exact CM rfl (fun _ _=>E0 rfl ⟨rfl,rfl⟩)|exact CM rfl (fun _ _=>GB rfl ⟨rfl,rfl⟩))(h:B):A:=k h
theorem l_{A B:Prop}(k:B→A:=by intro b;first|exact A6 rfl (Be rfl rfl rfl b)|exact A6 rfl (F2 rfl rfl rfl b)|exact A6 rfl (GC rfl rfl b)|exact A6 rfl (HG rfl rfl b)|exact A6 rfl (EY rfl rfl rfl b)|exact A6 rfl (Gd rfl rfl b)|exact B2 (Be rfl rfl rfl b)|exact B2 (F2 rfl rfl rfl b)|exact B2 (GC rfl rfl b)|exact B2 (HG rfl rfl b)|exact B2 (EY rfl rfl rfl b)|exact B2 (Gd rfl rfl b))(h:B):A:=k h
theorem AO(i:Nat){A B:Prop}(k:Do i B A:=by first|exact CL rfl (Be rfl rfl rfl ⟨rfl,rfl⟩)|exact CL rfl (F2 rfl rfl rfl ⟨rfl,rfl⟩)|exact CL rfl (GC rfl rfl ⟨rfl,rfl⟩)|exact CL rfl (HG rfl rfl ⟨rfl,rfl⟩)|exact CL rfl (EY rfl rfl rfl ⟨rfl,rfl⟩)|exact CL rfl (Gd rfl rfl ⟨rfl,rfl⟩)|exact CM rfl (fun _ hS=>Be rfl (kb hS rfl) rfl ⟨rfl,rfl⟩)|exact CM rfl (fun _ hS=>F2 rfl (kb hS rfl) rfl ⟨rfl,rfl⟩)|exact CM rfl (fun _ _=>GC rfl rfl ⟨rfl,rfl⟩)|exact CM rfl (fun _ _=>HG rfl rfl ⟨rfl,rfl⟩)|exact CM rfl (fun _ hS=>EY rfl (kb hS rfl) rfl ⟨rfl,rfl⟩)|exact CM rfl (fun _ _=>Gd rfl rfl ⟨rfl,rfl⟩))(h:B):A:=k h
theorem s_{A B:Prop}(k:B→A:=by intro b;exact Ki (BY rfl rfl rfl rfl rfl rfl (by repeat constructor) (by repeat constructor) b))(h:B):A:=k h
theorem b_{A B:Prop}(k:B→A:=by intro b;first|exact A6 rfl (R7 rfl rfl (by repeat constructor) b)|exact A6 rfl (R6 rfl rfl (by repeat constructor) b)|exact B2 (R7 rfl rfl (by repeat constructor) b)|exact B2 (R6 rfl rfl (by repeat constructor) b))(h:B):A:=k h
theorem Aa{A B:Prop}(k:B→A:=by intro b;first|exact A6 rfl (Dv (by repeat constructor) b)|exact B2 (Dv (by repeat constructor) b))(h:B):A:=k h
theorem n_{A B:Prop}(k:B→A:=by intro b;first|exact A6 rfl (MG rfl b)|exact A6 rfl (MF (by kernel_rfl) rfl b)|exact A6 rfl (MH rfl b)|exact B2 (MG rfl b)|exact B2 (MF (by kernel_rfl) rfl b)|exact B2 (MH rfl b))(h:B):A:=k h
theorem Hh(i:Nat){A B:Prop}(k:Do i B A:=by first|exact CL rfl (MG rfl ⟨rfl,rfl⟩)|exact CL rfl (MF (by kernel_rfl) rfl ⟨rfl,rfl⟩)|exact CL rfl (MH rfl ⟨rfl,rfl⟩)|exact CM rfl (fun _ _=>MG rfl ⟨rfl,rfl⟩)|exact CM rfl (fun _ _=>MF (by kernel_rfl) rfl ⟨rfl,rfl⟩)|exact CM rfl (fun _ _=>MH rfl ⟨rfl,rfl⟩))(h:B):A:=k h
theorem Dm{A B:Prop}(k:B→A:=by intro b;first|exact A6 rfl (E2 rfl rfl rfl (by simp<;>omega) (by repeat constructor) b)|exact A6 rfl (E3 rfl rfl (by simp<;>omega) (by repeat constructor) b)|exact B2 (E2 rfl rfl rfl (by simp<;>omega) (by repeat constructor) b)|exact B2 (E3 rfl rfl (by simp<;>omega) (by repeat constructor) b))(h:B):A:=k h
theorem x_{A B:Prop}(k:B→A:=by intro b;first|exact A6 rfl (Lz rfl rfl b)|exact B2 (Lz rfl rfl b))(h:B):A:=k h
theorem By(i:Nat){A B:Prop}(k:Do i B A:=by first|exact CL rfl (Lz rfl rfl ⟨rfl,rfl⟩)|exact CM rfl (fun _ _=>Lz rfl rfl ⟨rfl,rfl⟩))(h:B):A:=k h
theorem k_{A B:Prop}(k:B→A:=by intro b;first|exact A6 rfl (G9 rfl b)|exact A6 rfl (GA rfl b)|exact B2 (G9 rfl b)|exact B2 (GA rfl b))(h:B):A:=k h
theorem Dx(i:Nat){A B:Prop}(k:Do i B A:=by first|exact CL rfl (G9 rfl ⟨rfl,rfl⟩)|exact CL rfl (GA rfl ⟨rfl,rfl⟩)|exact CM rfl (fun _ _=>G9 rfl ⟨rfl,rfl⟩)|exact CM rfl (fun _ _=>GA rfl ⟨rfl,rfl⟩))(h:B):A:=k h
theorem AX{A B:Prop}(k:B→A:=by intro b;first|exact A6 rfl (Kd (by repeat (first|exact FillA.nil _|(apply FillA.cons;(focus exact rfl);(focus exact rfl);(focus exact rfl);(focus exact rfl);(focus exact rfl);(focus (repeat constructor))))) b)|exact B2 (Kd (by repeat (first|exact FillA.nil _|(apply FillA.cons;(focus exact rfl);(focus exact rfl);(focus exact rfl);(focus exact rfl);(focus exact rfl);(focus (repeat constructor))))) b))(h:B):A:=k h
theorem Fa(i:Nat){A B:Prop}(k:Do i B A:=by first|exact CL rfl (Kd (by repeat (first|exact FillA.nil _|(apply FillA.cons;(focus exact rfl);(focus exact rfl);(focus exact rfl);(focus exact rfl);(focus exact rfl);(focus (repeat constructor))))) ⟨rfl,rfl⟩)|exact CM rfl (fun _ _=>Kd (by repeat (first|exact FillA.nil _|(apply FillA.cons;(focus exact rfl);(focus exact rfl);(focus exact rfl);(focus exact rfl);(focus exact rfl);(focus (repeat constructor))))) ⟨rfl,rfl⟩))(h:B):A:=k h
theorem BX{A B:Prop}(k:B→A:=by intro b;first|exact A6 rfl (Ke (by repeat (first|exact DenseA.nil _|(apply DenseA.cons;(focus exact rfl);(focus exact rfl);(focus exact rfl);(focus exact rfl))|(apply DenseA.consE;(focus exact rfl);(focus exact rfl);(focus exact rfl)))) rfl rfl rfl rfl b)|exact B2 (Ke (by repeat (first|exact DenseA.nil _|(apply DenseA.cons;(focus exact rfl);(focus exact rfl);(focus exact rfl);(focus exact rfl))|(apply DenseA.consE;(focus exact rfl);(focus exact rfl);(focus exact rfl)))) rfl rfl rfl rfl b))(h:B):A:=k h
theorem Hi(i:Nat){A B:Prop}(k:Do i B A:=by first|exact CL rfl (Ke (by repeat (first|exact DenseA.nil _|(apply DenseA.cons;(focus exact rfl);(focus exact rfl);(focus exact rfl);(focus exact rfl))|(apply DenseA.consE;(focus exact rfl);(focus exact rfl);(focus exact rfl)))) rfl rfl rfl rfl ⟨rfl,rfl⟩)|exact CM rfl (fun _ _=>Ke (by repeat (first|exact DenseA.nil _|(apply DenseA.cons;(focus exact rfl);(focus exact rfl);(focus exact rfl);(focus exact rfl))|(apply DenseA.consE;(focus exact rfl);(focus exact rfl);(focus exact rfl)))) rfl rfl rfl rfl ⟨rfl,rfl⟩))(h:B):A:=k h
theorem AA{A B:Prop}(k:B→A:=by intro b;first|exact A6 rfl (Ma b)|exact B2 (Ma b))(h:B):A:=k h
theorem E5(i:Nat){A B:Prop}(k:Do i B A:=by first|exact CL rfl (Ma ⟨rfl,rfl⟩)|exact CM rfl (fun _ _=>Ma ⟨rfl,rfl⟩))(h:B):A:=k h
theorem AE{A B:Prop}(k:B→A:=by intro b;first|exact A6 rfl (Mb b)|exact B2 (Mb b))(h:B):A:=k h
theorem Fs(i:Nat){A B:Prop}(k:Do i B A:=by first|exact CL rfl (Mb ⟨rfl,rfl⟩)|exact CM rfl (fun _ _=>Mb ⟨rfl,rfl⟩))(h:B):A:=k h
theorem Ob{A B:Prop}(k:B→A:=by intro b;first|exact A6 rfl (Qf rfl b)|exact B2 (Qf rfl b))(h:B):A:=k h
theorem i_{A B:Prop}(k:B→A:=by intro b;first|exact A6 rfl (DX rfl rfl rfl (by first|assumption|rfl) b)|exact B2 (DX rfl rfl rfl (by first|assumption|rfl) b))(h:B):A:=k h
theorem Cl(i:Nat){A B:Prop}(k:Do i B A:=by first|exact CL rfl (DX rfl rfl rfl (by first|assumption|rfl) ⟨rfl,rfl⟩)|exact CM rfl (fun _ _=>DX rfl rfl rfl (by first|assumption|rfl) ⟨rfl,rfl⟩))(h:B):A:=k h
theorem Vz{A B:Prop}(k:B→A:=by intro b;first|exact A6 rfl (OL rfl rfl (by omega) (by repeat constructor) b)|exact B2 (OL rfl rfl (by omega) (by repeat constructor) b))(h:B):A:=k h
theorem B7{A B:Prop}(k:B→A:=by intro b;first|exact A6 rfl (ME rfl b)|exact B2 (ME rfl b))(h:B):A:=k h
theorem RT(i:Nat){A B:Prop}(k:Do i B A:=by first|exact CL rfl (ME rfl ⟨rfl,rfl⟩)|exact CM rfl (fun _ _=>ME rfl ⟨rfl,rfl⟩))(h:B):A:=k h
theorem B8{A B:Prop}(k:B→A:=by intro b;first|exact A6 rfl (JB rfl rfl (by omega) b)|exact A6 rfl (EC rfl rfl (by omega) b)|exact A6 rfl (OB rfl rfl b)|exact B2 (JB rfl rfl (by omega) b)|exact B2 (EC rfl rfl (by omega) b)|exact B2 (OB rfl rfl b))(h:B):A:=k h
theorem EN{A B:Prop}(k:B→A:=by intro b;first|exact A6 rfl (JC rfl rfl (by omega) b)|exact A6 rfl (Kc rfl rfl b)|exact B2 (JC rfl rfl (by omega) b)|exact B2 (Kc rfl rfl b))(h:B):A:=k h
theorem Oc(i:Nat){A B:Prop}(k:Do i B A:=by first|exact CL rfl (JC rfl rfl (by omega) ⟨rfl,rfl⟩)|exact CL rfl (Kc rfl rfl ⟨rfl,rfl⟩)|exact CM rfl (fun _ _=>JC rfl rfl (by omega) ⟨rfl,rfl⟩)|exact CM rfl (fun _ _=>Kc rfl rfl ⟨rfl,rfl⟩))(h:B):A:=k h
theorem W8{A B:Prop}(k:B→A:=by intro b;first|exact A6 rfl (Ql rfl rfl b)|exact B2 (Ql rfl rfl b))(h:B):A:=k h
theorem AK{A B:Prop}(k:B→A:=by intro b;first|exact A6 rfl (M4 rfl rfl b)|exact A6 rfl (MA rfl rfl b)|exact A6 rfl (MS (by kernel_rfl) rfl rfl b)|exact B2 (M4 rfl rfl b)|exact B2 (MA rfl rfl b)|exact B2 (MS (by kernel_rfl) rfl rfl b))(h:B):A:=k h
theorem Eb(i:Nat){A B:Prop}(k:Do i B A:=by first|exact CL rfl (M4 rfl rfl ⟨rfl,rfl⟩)|exact CL rfl (MA rfl rfl ⟨rfl,rfl⟩)|exact CL rfl (MS (by kernel_rfl) rfl rfl ⟨rfl,rfl⟩)|exact CM rfl (fun _ _=>M4 rfl rfl ⟨rfl,rfl⟩)|exact CM rfl (fun _ _=>MA rfl rfl ⟨rfl,rfl⟩)|exact CM rfl (fun _ _=>MS (by kernel_rfl) rfl rfl ⟨rfl,rfl⟩))(h:B):A:=k h
theorem Ao{A B:Prop}(k:B→A:=by intro b;first|exact A6 rfl (M5 rfl rfl b)|exact A6 rfl (MB rfl rfl b)|exact A6 rfl (MT (by kernel_rfl) rfl rfl b)|exact B2 (M5 rfl rfl b)|exact B2 (MB rfl rfl b)|exact B2 (MT (by kernel_rfl) rfl rfl b))(h:B):A:=k h
theorem Ks(i:Nat){A B:Prop}(k:Do i B A:=by first|exact CL rfl (M5 rfl rfl ⟨rfl,rfl⟩)|exact CL rfl (MB rfl rfl ⟨rfl,rfl⟩)|exact CL rfl (MT (by kernel_rfl) rfl rfl ⟨rfl,rfl⟩)|exact CM rfl (fun _ _=>M5 rfl rfl ⟨rfl,rfl⟩)|exact CM rfl (fun _ _=>MB rfl rfl ⟨rfl,rfl⟩)|exact CM rfl (fun _ _=>MT (by kernel_rfl) rfl rfl ⟨rfl,rfl⟩))(h:B):A:=k h
theorem B4{A B:Prop}(k:B→A:=by intro b;first|exact A6 rfl (M6 rfl rfl b)|exact A6 rfl (MC rfl rfl b)|exact B2 (M6 rfl rfl b)|exact B2 (MC rfl rfl b))(h:B):A:=k h
theorem RU(i:Nat){A B:Prop}(k:Do i B A:=by first|exact CL rfl (M6 rfl rfl ⟨rfl,rfl⟩)|exact CL rfl (MC rfl rfl ⟨rfl,rfl⟩)|exact CM rfl (fun _ _=>M6 rfl rfl ⟨rfl,rfl⟩)|exact CM rfl (fun _ _=>MC rfl rfl ⟨rfl,rfl⟩))(h:B):A:=k h
theorem Dn{A B:Prop}(k:B→A:=by intro b;first|exact A6 rfl (M7 rfl rfl b)|exact B2 (M7 rfl rfl b))(h:B):A:=k h
theorem WB(i:Nat){A B:Prop}(k:Do i B A:=by first|exact CL rfl (M7 rfl rfl ⟨rfl,rfl⟩)|exact CM rfl (fun _ _=>M7 rfl rfl ⟨rfl,rfl⟩))(h:B):A:=k h
theorem Ba{A B:Prop}(k:B→A:=by intro b;first|exact A6 rfl (M8 rfl rfl b)|exact B2 (M8 rfl rfl b))(h:B):A:=k h
theorem Od(i:Nat){A B:Prop}(k:Do i B A:=by first|exact CL rfl (M8 rfl rfl ⟨rfl,rfl⟩)|exact CM rfl (fun _ _=>M8 rfl rfl ⟨rfl,rfl⟩))(h:B):A:=k h
theorem Cm{A B:Prop}(k:B→A:=by intro b;first|exact A6 rfl (M9 rfl rfl b)|exact A6 rfl (MD rfl rfl b)|exact B2 (M9 rfl rfl b)|exact B2 (MD rfl rfl b))(h:B):A:=k h
theorem RV(i:Nat){A B:Prop}(k:Do i B A:=by first|exact CL rfl (M9 rfl rfl ⟨rfl,rfl⟩)|exact CL rfl (MD rfl rfl ⟨rfl,rfl⟩)|exact CM rfl (fun _ _=>M9 rfl rfl ⟨rfl,rfl⟩)|exact CM rfl (fun _ _=>MD rfl rfl ⟨rfl,rfl⟩))(h:B):A:=k h
theorem JN{A B:Prop}(k:B→A:=by intro b;first|exact A6 rfl (MR rfl rfl b)|exact B2 (MR rfl rfl b))(h:B):A:=k h
theorem WC(i:Nat){A B:Prop}(k:Do i B A:=by first|exact CL rfl (MR rfl rfl ⟨rfl,rfl⟩)|exact CM rfl (fun _ _=>MR rfl rfl ⟨rfl,rfl⟩))(h:B):A:=k h
theorem at_{A B:Prop}(k:B→A:=by intro b;first|exact A6 rfl (RF rfl rfl b)|exact B2 (RF rfl rfl b))(h:B):A:=k h
theorem WD{A B:Prop}(k:B→A:=by intro b;first|exact A6 rfl (R8 rfl rfl b)|exact B2 (R8 rfl rfl b))(h:B):A:=k h
theorem Oe{A B:Prop}(k:B→A:=by intro b;first|exact A6 rfl (R9 rfl rfl (by omega) b)|exact B2 (R9 rfl rfl (by omega) b))(h:B):A:=k h
theorem C4{f:Nat→Option AV}{bx:List (List AV)}{tk:List (Nat×Nat×List (List AV))}{l:List (Nat×AV)}{N:Dim}(n m:Nat){bx':List (List AV)}{tk':List (Nat×Nat×List (List AV))}(hbp:BK n m bx'=true)(hn:Nat.ble N.ni n=true:=by rfl)(hb:bx.take n=bx':=by rfl)(ht:tk.take m=tk':=by rfl)(hl:Sub n m f l:=by repeat (first|exact Sub.nil|refine Sub.cons _ _ _ rfl rfl ?_|refine Sub.any _ _ ?_|refine Sub.sl _ _ _ _ _ rfl ?_|refine Sub.slnil _ _ _ rfl ?_)):Weak N ⟨f,⟨bx,tk⟩⟩ ⟨look l,⟨bx',tk'⟩⟩:=Ar n m hn hb ht hbp hl
theorem EE{P:Program}{ev:Operand→Option AV}{h:AH}{R:AV→AH→Prop}{d:Option Tmp}{ty:TypeId}{pos:String}{af:Array Edge}{gd:Option (Nat×Bool)}{T:TypeId}{l:List (Nat×Operand)}{pl:List (Nat×Nat)}{row cs:List AV}[hp:Plc P T pl][hz:Zer P T row](hR:R (.agg cs) h)(hf:FillA pl ev row l cs:=by repeat (first|exact FillA.nil _|(apply FillA.cons;(focus exact rfl);(focus exact rfl);(focus exact rfl);(focus exact rfl);(focus exact rfl);(focus (repeat constructor))))):AStep P ⟨d, .build T l.toArray,ty,pos,af,gd⟩ ev h R:=Kd hf hR
theorem Hj{P:Program}{ev:Operand→Option AV}{h:AH}{R:AV→AH→Prop}{o:Oper}{x y:AV}(hs:AStep P o ev h fun r h'=>r=x∧h'=h)(hR:R y h)(hl:LeA x y:=by repeat (first|exact AZ _|exact LeA.nil _|exact LeL.refl _|refine LeA.agg ?_|refine LeA.tup ?_|exact LeL.nil|refine LeL.cons ?_ ?_|exact LeA.any _)):AStep P o ev h R:=GG hs hl hR
instance :Typ prog 3 1 false:=⟨by kernel_rfl⟩
instance :Typ prog 4 1 false:=⟨by kernel_rfl⟩
instance :Zer prog 4 [.v (.bool false)]:=⟨[.bool false],by kernel_rfl,rfl,rfl⟩
instance :Typ prog 9 1 false:=⟨by kernel_rfl⟩
instance :Typ prog 22 1 false:=⟨by kernel_rfl⟩
instance :Elm prog 22 3 1 8:=⟨by kernel_rfl,by decide⟩
instance :Typ prog 26 2 true:=⟨by kernel_rfl⟩
instance :Zer prog 26 [.v (.int .i64 0), .v (.int .i64 0)]:=⟨[.int .i64 0, .int .i64 0],by kernel_rfl,rfl,rfl⟩
instance :Plc prog 26 [(0,1),(1,1)]:=⟨by kernel_rfl⟩
instance :Fld prog 26 0 0 1:=⟨by kernel_rfl⟩
instance :Fld prog 26 1 1 1:=⟨by kernel_rfl⟩
instance :Typ prog 29 14 true:=⟨by kernel_rfl⟩
instance :Zer prog 29 [.v (.int .i64 0), .v (.int .i64 0), .v (.int .i64 0), .v (.int .i64 0), .v (.int .i64 0), .v (.int .i64 0), .v (.int .i64 0), .v (.int .i64 0), .v (.int .i64 0), .v (.int .i64 0), .v (.string ⟨#[]⟩), .v (.string ⟨#[]⟩), .v (.slice none 0 0), .v (.bool false)]:=⟨[.int .i64 0, .int .i64 0, .int .i64 0, .int .i64 0, .int .i64 0, .int .i64 0, .int .i64 0, .int .i64 0, .int .i64 0, .int .i64 0, .string ⟨#[]⟩, .string ⟨#[]⟩, .slice none 0 0, .bool false],by kernel_rfl,rfl,rfl⟩
instance :Plc prog 29 [(0,1),(1,1),(2,1),(3,1),(4,1),(5,1),(6,1),(7,1),(8,2),(10,1),(11,1),(12,1),(13,1)]:=⟨by kernel_rfl⟩
instance :Fld prog 29 0 0 1:=⟨by kernel_rfl⟩
instance :Fld prog 29 1 1 1:=⟨by kernel_rfl⟩
instance :Fld prog 29 2 2 1:=⟨by kernel_rfl⟩
instance :Fld prog 29 3 3 1:=⟨by kernel_rfl⟩
instance :Fld prog 29 4 4 1:=⟨by kernel_rfl⟩
instance :Fld prog 29 5 5 1:=⟨by kernel_rfl⟩
instance :Fld prog 29 6 6 1:=⟨by kernel_rfl⟩
instance :Fld prog 29 7 7 1:=⟨by kernel_rfl⟩
instance :Fld prog 29 9 10 1:=⟨by kernel_rfl⟩
instance :Fld prog 29 10 11 1:=⟨by kernel_rfl⟩
instance :Fld prog 29 12 13 1:=⟨by kernel_rfl⟩
instance :Typ prog 30 4 true:=⟨by kernel_rfl⟩
instance :Zer prog 30 [.v (.int .i64 0), .v (.int .i64 0), .v (.int .i64 0), .v (.int .i64 0)]:=⟨[.int .i64 0, .int .i64 0, .int .i64 0, .int .i64 0],by kernel_rfl,rfl,rfl⟩
instance :Plc prog 30 [(0,1),(1,1),(2,1),(3,1)]:=⟨by kernel_rfl⟩
instance :Typ prog 31 1 false:=⟨by kernel_rfl⟩
instance :Elm prog 31 9 1 16:=⟨by kernel_rfl,by decide⟩
instance :Typ prog 33 7 true:=⟨by kernel_rfl⟩
instance :Zer prog 33 [.v (.int .i64 0), .v (.int .i64 0), .v (.int .i64 0), .v (.int .i64 0), .v (.int .i64 0), .v (.slice none 0 0), .v (.slice none 0 0)]:=⟨[.int .i64 0, .int .i64 0, .int .i64 0, .int .i64 0, .int .i64 0, .slice none 0 0, .slice none 0 0],by kernel_rfl,rfl,rfl⟩
instance :Plc prog 33 [(0,1),(1,4),(5,1),(6,1)]:=⟨by kernel_rfl⟩
instance :Fld prog 33 0 0 1:=⟨by kernel_rfl⟩
instance :Fld prog 33 1 1 4:=⟨by kernel_rfl⟩
instance :Fld prog 33 2 5 1:=⟨by kernel_rfl⟩
instance :Fld prog 33 3 6 1:=⟨by kernel_rfl⟩
instance :Typ prog 34 1 false:=⟨by kernel_rfl⟩
instance :Elm prog 34 121 13 128:=⟨by kernel_rfl,by decide⟩
instance :Typ prog 36 25 true:=⟨by kernel_rfl⟩
instance :Zer prog 36 [.v (.int .i64 0), .v (.int .i64 0), .v (.int .i64 0), .v (.int .i64 0), .v (.int .i64 0), .v (.int .i64 0), .v (.int .i64 0), .v (.int .i64 0), .v (.int .i64 0), .v (.int .i64 0), .v (.int .i64 0), .v (.string ⟨#[]⟩), .v (.string ⟨#[]⟩), .v (.slice none 0 0), .v (.bool false), .v (.int .i64 0), .v (.int .i64 0), .v (.int .i64 0), .v (.int .i64 0), .v (.int .i64 0), .v (.slice none 0 0), .v (.slice none 0 0), .v (.int .i64 0), .v (.slice none 0 0), .v (.int .i64 0)]:=⟨[.int .i64 0, .int .i64 0, .int .i64 0, .int .i64 0, .int .i64 0, .int .i64 0, .int .i64 0, .int .i64 0, .int .i64 0, .int .i64 0, .int .i64 0, .string ⟨#[]⟩, .string ⟨#[]⟩, .slice none 0 0, .bool false, .int .i64 0, .int .i64 0, .int .i64 0, .int .i64 0, .int .i64 0, .slice none 0 0, .slice none 0 0, .int .i64 0, .slice none 0 0, .int .i64 0],by kernel_rfl,rfl,rfl⟩
instance :Plc prog 36 [(0,1),(1,14),(15,7),(22,1),(23,1),(24,1)]:=⟨by kernel_rfl⟩
instance :Fld prog 36 0 0 1:=⟨by kernel_rfl⟩
instance :Fld prog 36 1 1 14:=⟨by kernel_rfl⟩
instance :Fld prog 36 2 15 7:=⟨by kernel_rfl⟩
instance :Fld prog 36 3 22 1:=⟨by kernel_rfl⟩
instance :Fld prog 36 4 23 1:=⟨by kernel_rfl⟩
instance :Fld prog 36 5 24 1:=⟨by kernel_rfl⟩
instance :Typ prog 37 1 false:=⟨by kernel_rfl⟩
instance :Elm prog 37 148 2 32:=⟨by kernel_rfl,by decide⟩
instance :Typ prog 39 1 true:=⟨by kernel_rfl⟩
instance :Zer prog 39 [.v (.slice none 0 0)]:=⟨[.slice none 0 0],by kernel_rfl,rfl,rfl⟩
instance :Plc prog 39 [(0,1)]:=⟨by kernel_rfl⟩
instance :Fld prog 39 0 0 1:=⟨by kernel_rfl⟩
instance :Typ prog 40 1 false:=⟨by kernel_rfl⟩
instance :Elm prog 40 185 3 24:=⟨by kernel_rfl,by decide⟩
instance :Typ prog 42 2 true:=⟨by kernel_rfl⟩
instance :Zer prog 42 [.v (.slice none 0 0), .v (.slice none 0 0)]:=⟨[.slice none 0 0, .slice none 0 0],by kernel_rfl,rfl,rfl⟩
instance :Plc prog 42 [(0,1),(1,1)]:=⟨by kernel_rfl⟩
instance :Fld prog 42 0 0 1:=⟨by kernel_rfl⟩
instance :Fld prog 42 1 1 1:=⟨by kernel_rfl⟩
instance :Elm prog 43 29 14 144:=⟨by kernel_rfl,by decide⟩
instance :Typ prog 45 3 true:=⟨by kernel_rfl⟩
instance :Zer prog 45 [.v (.int .i64 0), .v (.int .i64 0), .v (.slice none 0 0)]:=⟨[.int .i64 0, .int .i64 0, .slice none 0 0],by kernel_rfl,rfl,rfl⟩
instance :Plc prog 45 [(0,1),(1,1),(2,1)]:=⟨by kernel_rfl⟩
instance :Typ prog 47 5 true:=⟨by kernel_rfl⟩
instance :Zer prog 47 [.v (.slice none 0 0), .v (.slice none 0 0), .v (.int .i64 0), .v (.int .i64 0), .v (.slice none 0 0)]:=⟨[.slice none 0 0, .slice none 0 0, .int .i64 0, .int .i64 0, .slice none 0 0],by kernel_rfl,rfl,rfl⟩
instance :Plc prog 47 [(0,2),(2,3)]:=⟨by kernel_rfl⟩
instance :Fld prog 47 0 0 2:=⟨by kernel_rfl⟩
instance :Elm prog 48 248 7 64:=⟨by kernel_rfl,by decide⟩
instance :Typ prog 54 1 false:=⟨by kernel_rfl⟩
instance :Elm prog 54 83 8 96:=⟨by kernel_rfl,by decide⟩
instance :Typ prog 57 1 false:=⟨by kernel_rfl⟩
instance :Elm prog 57 4 1 1:=⟨by kernel_rfl,by decide⟩
instance :Typ prog 61 1 false:=⟨by kernel_rfl⟩
instance :Elm prog 61 93 6 56:=⟨by kernel_rfl,by decide⟩
instance :Typ prog 63 2 true:=⟨by kernel_rfl⟩
instance :Zer prog 63 [.v (.slice none 0 0), .v (.slice none 0 0)]:=⟨[.slice none 0 0, .slice none 0 0],by kernel_rfl,rfl,rfl⟩
instance :Plc prog 63 [(0,1),(1,1)]:=⟨by kernel_rfl⟩
instance :Fld prog 63 0 0 1:=⟨by kernel_rfl⟩
instance :Fld prog 63 1 1 1:=⟨by kernel_rfl⟩
instance :Typ prog 67 3 true:=⟨by kernel_rfl⟩
instance :Zer prog 67 [.v (.bool false), .v (.int .i64 0), .v (.string ⟨#[]⟩)]:=⟨[.bool false, .int .i64 0, .string ⟨#[]⟩],by kernel_rfl,rfl,rfl⟩
instance :Plc prog 67 [(0,1),(1,1),(2,1)]:=⟨by kernel_rfl⟩
instance :Fld prog 67 0 0 1:=⟨by kernel_rfl⟩
instance :Fld prog 67 1 1 1:=⟨by kernel_rfl⟩
instance :Fld prog 67 2 2 1:=⟨by kernel_rfl⟩
instance :Typ prog 80 1 false:=⟨by kernel_rfl⟩
instance :Typ prog 81 1 false:=⟨by kernel_rfl⟩
instance :Elm prog 81 115 5 48:=⟨by kernel_rfl,by decide⟩
instance :Typ prog 83 8 true:=⟨by kernel_rfl⟩
instance :Zer prog 83 [.v (.int .i64 0), .v (.int .i64 0), .v (.int .u64 0), .v (.slice none 0 0), .v (.int .i64 0), .v (.string ⟨#[]⟩), .v (.int .i64 0), .v (.string ⟨#[]⟩)]:=⟨[.int .i64 0, .int .i64 0, .int .u64 0, .slice none 0 0, .int .i64 0, .string ⟨#[]⟩, .int .i64 0, .string ⟨#[]⟩],by kernel_rfl,rfl,rfl⟩
instance :Plc prog 83 [(0,1),(1,1),(2,1),(3,1),(4,1),(5,1),(6,1),(7,1)]:=⟨by kernel_rfl⟩
instance :Fld prog 83 0 0 1:=⟨by kernel_rfl⟩
instance :Fld prog 83 1 1 1:=⟨by kernel_rfl⟩
instance :Fld prog 83 2 2 1:=⟨by kernel_rfl⟩
instance :Fld prog 83 3 3 1:=⟨by kernel_rfl⟩
instance :Fld prog 83 4 4 1:=⟨by kernel_rfl⟩
instance :Fld prog 83 5 5 1:=⟨by kernel_rfl⟩
instance :Fld prog 83 6 6 1:=⟨by kernel_rfl⟩
instance :Fld prog 83 7 7 1:=⟨by kernel_rfl⟩
instance :Typ prog 93 6 true:=⟨by kernel_rfl⟩
instance :Zer prog 93 [.v (.int .i64 0), .v (.int .i64 0), .v (.int .i64 0), .v (.string ⟨#[]⟩), .v (.int .i64 0), .v (.int .i64 0)]:=⟨[.int .i64 0, .int .i64 0, .int .i64 0, .string ⟨#[]⟩, .int .i64 0, .int .i64 0],by kernel_rfl,rfl,rfl⟩
instance :Plc prog 93 [(0,1),(1,2),(3,1),(4,2)]:=⟨by kernel_rfl⟩
instance :Fld prog 93 0 0 1:=⟨by kernel_rfl⟩
instance :Fld prog 93 1 1 2:=⟨by kernel_rfl⟩
instance :Fld prog 93 2 3 1:=⟨by kernel_rfl⟩
instance :Fld prog 93 3 4 2:=⟨by kernel_rfl⟩
instance :Zer prog 105 [.v (.slice none 0 0), .v (.int .i64 0)]:=⟨[.slice none 0 0, .int .i64 0],by kernel_rfl,rfl,rfl⟩
instance :Plc prog 105 [(0,1),(1,1)]:=⟨by kernel_rfl⟩
instance :Fld prog 105 0 0 1:=⟨by kernel_rfl⟩
instance :Fld prog 105 1 1 1:=⟨by kernel_rfl⟩
instance :Typ prog 115 5 true:=⟨by kernel_rfl⟩
instance :Zer prog 115 [.v (.int .i64 0), .v (.int .i64 0), .v (.int .i64 0), .v (.string ⟨#[]⟩), .v (.int .i64 0)]:=⟨[.int .i64 0, .int .i64 0, .int .i64 0, .string ⟨#[]⟩, .int .i64 0],by kernel_rfl,rfl,rfl⟩
instance :Plc prog 115 [(0,1),(1,1),(2,1),(3,1),(4,1)]:=⟨by kernel_rfl⟩
instance :Fld prog 115 0 0 1:=⟨by kernel_rfl⟩
instance :Fld prog 115 1 1 1:=⟨by kernel_rfl⟩
instance :Fld prog 115 2 2 1:=⟨by kernel_rfl⟩
instance :Fld prog 115 3 3 1:=⟨by kernel_rfl⟩
instance :Fld prog 115 4 4 1:=⟨by kernel_rfl⟩
instance :Typ prog 121 13 true:=⟨by kernel_rfl⟩
instance :Zer prog 121 [.v (.string ⟨#[]⟩), .v (.string ⟨#[]⟩), .v (.int .i64 0), .v (.int .i64 0), .v (.string ⟨#[]⟩), .v (.int .i64 0), .v (.int .i64 0), .v (.int .i64 0), .v (.int .i64 0), .v (.int .i64 0), .v (.int .i64 0), .v (.int .i64 0), .v (.int .i64 0)]:=⟨[.string ⟨#[]⟩, .string ⟨#[]⟩, .int .i64 0, .int .i64 0, .string ⟨#[]⟩, .int .i64 0, .int .i64 0, .int .i64 0, .int .i64 0, .int .i64 0, .int .i64 0, .int .i64 0, .int .i64 0],by kernel_rfl,rfl,rfl⟩
instance :Plc prog 121 [(0,1),(1,1),(2,2),(4,1),(5,2),(7,1),(8,1),(9,1),(10,1),(11,1),(12,1)]:=⟨by kernel_rfl⟩
instance :Fld prog 121 1 1 1:=⟨by kernel_rfl⟩
instance :Fld prog 121 2 2 2:=⟨by kernel_rfl⟩
instance :Fld prog 121 3 4 1:=⟨by kernel_rfl⟩
instance :Fld prog 121 4 5 2:=⟨by kernel_rfl⟩
instance :Fld prog 121 6 8 1:=⟨by kernel_rfl⟩
instance :Fld prog 121 7 9 1:=⟨by kernel_rfl⟩
instance :Fld prog 121 8 10 1:=⟨by kernel_rfl⟩
instance :Fld prog 121 9 11 1:=⟨by kernel_rfl⟩
instance :Fld prog 121 10 12 1:=⟨by kernel_rfl⟩
instance :Typ prog 125 1 false:=⟨by kernel_rfl⟩
instance :Elm prog 131 134 3 32:=⟨by kernel_rfl,by decide⟩
instance :Zer prog 134 [.v (.string ⟨#[]⟩), .v (.int .i64 0), .v (.bool false)]:=⟨[.string ⟨#[]⟩, .int .i64 0, .bool false],by kernel_rfl,rfl,rfl⟩
instance :Plc prog 134 [(0,1),(1,1),(2,1)]:=⟨by kernel_rfl⟩
instance :Fld prog 134 1 1 1:=⟨by kernel_rfl⟩
instance :Typ prog 146 1 false:=⟨by kernel_rfl⟩
instance :Elm prog 146 151 8 88:=⟨by kernel_rfl,by decide⟩
instance :Typ prog 148 2 true:=⟨by kernel_rfl⟩
instance :Zer prog 148 [.v (.int .i64 0), .v (.slice none 0 0)]:=⟨[.int .i64 0, .slice none 0 0],by kernel_rfl,rfl,rfl⟩
instance :Plc prog 148 [(0,1),(1,1)]:=⟨by kernel_rfl⟩
instance :Fld prog 148 0 0 1:=⟨by kernel_rfl⟩
instance :Fld prog 148 1 1 1:=⟨by kernel_rfl⟩
instance :Typ prog 149 1 false:=⟨by kernel_rfl⟩
instance :Elm prog 149 234 2 24:=⟨by kernel_rfl,by decide⟩
instance :Typ prog 151 8 true:=⟨by kernel_rfl⟩
instance :Zer prog 151 [.v (.int .i64 0), .v (.int .i64 0), .v (.int .i64 0), .v (.int .i64 0), .v (.int .i64 0), .v (.int .i64 0), .v (.string ⟨#[]⟩), .v (.slice none 0 0)]:=⟨[.int .i64 0, .int .i64 0, .int .i64 0, .int .i64 0, .int .i64 0, .int .i64 0, .string ⟨#[]⟩, .slice none 0 0],by kernel_rfl,rfl,rfl⟩
instance :Plc prog 151 [(0,1),(1,1),(2,1),(3,1),(4,1),(5,1),(6,1),(7,1)]:=⟨by kernel_rfl⟩
instance :Fld prog 151 0 0 1:=⟨by kernel_rfl⟩
instance :Fld prog 151 1 1 1:=⟨by kernel_rfl⟩
instance :Fld prog 151 2 2 1:=⟨by kernel_rfl⟩
instance :Fld prog 151 3 3 1:=⟨by kernel_rfl⟩
instance :Fld prog 151 4 4 1:=⟨by kernel_rfl⟩
instance :Fld prog 151 5 5 1:=⟨by kernel_rfl⟩
instance :Fld prog 151 6 6 1:=⟨by kernel_rfl⟩
instance :Fld prog 151 7 7 1:=⟨by kernel_rfl⟩
instance :Zer prog 176 [.v (.int .i64 0), .v (.int .i64 0), .v (.int .i64 0), .v (.int .i64 0)]:=⟨[.int .i64 0, .int .i64 0, .int .i64 0, .int .i64 0],by kernel_rfl,rfl,rfl⟩
instance :Plc prog 176 [(0,2),(2,2)]:=⟨by kernel_rfl⟩
instance :Typ prog 185 3 true:=⟨by kernel_rfl⟩
instance :Zer prog 185 [.v (.int .i64 0), .v (.int .i64 0), .v (.int .i64 0)]:=⟨[.int .i64 0, .int .i64 0, .int .i64 0],by kernel_rfl,rfl,rfl⟩
instance :Plc prog 185 [(0,1),(1,2)]:=⟨by kernel_rfl⟩
instance :Fld prog 185 0 0 1:=⟨by kernel_rfl⟩
instance :Fld prog 185 1 1 2:=⟨by kernel_rfl⟩
instance :Typ prog 196 5 true:=⟨by kernel_rfl⟩
instance :Zer prog 196 [.v (.string ⟨#[]⟩), .v (.int .i64 0), .v (.int .i64 0), .v (.int .i64 0), .v (.int .i64 0)]:=⟨[.string ⟨#[]⟩, .int .i64 0, .int .i64 0, .int .i64 0, .int .i64 0],by kernel_rfl,rfl,rfl⟩
instance :Plc prog 196 [(0,1),(1,1),(2,1),(3,1),(4,1)]:=⟨by kernel_rfl⟩
instance :Fld prog 196 1 1 1:=⟨by kernel_rfl⟩
instance :Fld prog 196 2 2 1:=⟨by kernel_rfl⟩
instance :Fld prog 196 3 3 1:=⟨by kernel_rfl⟩
instance :Fld prog 196 4 4 1:=⟨by kernel_rfl⟩
instance :Typ prog 200 8 true:=⟨by kernel_rfl⟩
instance :Zer prog 200 [.v (.int .i64 0), .v (.int .i64 0), .v (.string ⟨#[]⟩), .v (.int .i64 0), .v (.int .i64 0), .v (.bool false), .v (.bool false), .v (.string ⟨#[]⟩)]:=⟨[.int .i64 0, .int .i64 0, .string ⟨#[]⟩, .int .i64 0, .int .i64 0, .bool false, .bool false, .string ⟨#[]⟩],by kernel_rfl,rfl,rfl⟩
instance :Plc prog 200 [(0,2),(2,1),(3,2),(5,1),(6,1),(7,1)]:=⟨by kernel_rfl⟩
instance :Fld prog 200 0 0 2:=⟨by kernel_rfl⟩
instance :Fld prog 200 1 2 1:=⟨by kernel_rfl⟩
instance :Fld prog 200 2 3 2:=⟨by kernel_rfl⟩
instance :Fld prog 200 3 5 1:=⟨by kernel_rfl⟩
instance :Fld prog 200 4 6 1:=⟨by kernel_rfl⟩
instance :Fld prog 200 5 7 1:=⟨by kernel_rfl⟩
instance :Elm prog 216 26 2 16:=⟨by kernel_rfl,by decide⟩
instance :Typ prog 234 2 true:=⟨by kernel_rfl⟩
instance :Zer prog 234 [.v (.string ⟨#[]⟩), .v (.int .i64 0)]:=⟨[.string ⟨#[]⟩, .int .i64 0],by kernel_rfl,rfl,rfl⟩
instance :Plc prog 234 [(0,1),(1,1)]:=⟨by kernel_rfl⟩
instance :Fld prog 234 0 0 1:=⟨by kernel_rfl⟩
instance :Fld prog 234 1 1 1:=⟨by kernel_rfl⟩
instance :Elm prog 236 196 5 48:=⟨by kernel_rfl,by decide⟩
instance :Zer prog 248 [.v (.int .i64 0), .v (.int .i64 0), .v (.string ⟨#[]⟩), .v (.int .i64 0), .v (.int .i64 0), .v (.int .i64 0), .v (.int .i64 0)]:=⟨[.int .i64 0, .int .i64 0, .string ⟨#[]⟩, .int .i64 0, .int .i64 0, .int .i64 0, .int .i64 0],by kernel_rfl,rfl,rfl⟩
instance :Plc prog 248 [(0,2),(2,1),(3,2),(5,2)]:=⟨by kernel_rfl⟩
instance :Elm prog 274 125 1 8:=⟨by kernel_rfl,by decide⟩
instance :Typ prog 282 11 true:=⟨by kernel_rfl⟩
instance :Zer prog 282 [.v (.slice none 0 0), .v (.slice none 0 0), .v (.slice none 0 0), .v (.int .i64 0), .v (.int .i64 0), .v (.int .i64 0), .v (.int .i64 0), .v (.string ⟨#[]⟩), .v (.bool false), .v (.bool false), .v (.int .i64 0)]:=⟨[.slice none 0 0, .slice none 0 0, .slice none 0 0, .int .i64 0, .int .i64 0, .int .i64 0, .int .i64 0, .string ⟨#[]⟩, .bool false, .bool false, .int .i64 0],by kernel_rfl,rfl,rfl⟩
instance :Plc prog 282 [(0,2),(2,1),(3,2),(5,2),(7,1),(8,1),(9,1),(10,1)]:=⟨by kernel_rfl⟩
instance :Fld prog 282 0 0 2:=⟨by kernel_rfl⟩
instance :Fld prog 282 1 2 1:=⟨by kernel_rfl⟩
instance :Fld prog 282 2 3 2:=⟨by kernel_rfl⟩
instance :Fld prog 282 3 5 2:=⟨by kernel_rfl⟩
instance :Fld prog 282 4 7 1:=⟨by kernel_rfl⟩
instance :Fld prog 282 5 8 1:=⟨by kernel_rfl⟩
instance :Fld prog 282 6 9 1:=⟨by kernel_rfl⟩
instance :Fld prog 282 7 10 1:=⟨by kernel_rfl⟩
instance :Fun prog 12:=⟨by kernel_rfl⟩
instance :Fun prog 16:=⟨by kernel_rfl⟩
instance :Fun prog 18:=⟨by kernel_rfl⟩
instance :Fun prog 20:=⟨by kernel_rfl⟩
instance :Fun prog 21:=⟨by kernel_rfl⟩
instance :Fun prog 22:=⟨by kernel_rfl⟩
instance :Fun prog 23:=⟨by kernel_rfl⟩
instance :Fun prog 24:=⟨by kernel_rfl⟩
instance :Fun prog 25:=⟨by kernel_rfl⟩
instance :Fun prog 26:=⟨by kernel_rfl⟩
instance :Fun prog 27:=⟨by kernel_rfl⟩
instance :Fun prog 28:=⟨by kernel_rfl⟩
instance :Fun prog 29:=⟨by kernel_rfl⟩
instance :Fun prog 30:=⟨by kernel_rfl⟩
instance :Fun prog 31:=⟨by kernel_rfl⟩
instance :Fun prog 32:=⟨by kernel_rfl⟩
instance :Fun prog 33:=⟨by kernel_rfl⟩
instance :Fun prog 34:=⟨by kernel_rfl⟩
instance :Fun prog 35:=⟨by kernel_rfl⟩
instance :Fun prog 36:=⟨by kernel_rfl⟩
instance :Fun prog 37:=⟨by kernel_rfl⟩
instance :Fun prog 38:=⟨by kernel_rfl⟩
instance :Fun prog 39:=⟨by kernel_rfl⟩
instance :Fun prog 40:=⟨by kernel_rfl⟩
instance :Fun prog 41:=⟨by kernel_rfl⟩
instance :Fun prog 46:=⟨by kernel_rfl⟩
instance :Fun prog 47:=⟨by kernel_rfl⟩
instance :Fun prog 51:=⟨by kernel_rfl⟩
instance :Fun prog 56:=⟨by kernel_rfl⟩
instance :Fun prog 57:=⟨by kernel_rfl⟩
instance :Fun prog 60:=⟨by kernel_rfl⟩
instance :Fun prog 61:=⟨by kernel_rfl⟩
instance :Fun prog 62:=⟨by kernel_rfl⟩
instance :Fun prog 63:=⟨by kernel_rfl⟩
instance :Fun prog 64:=⟨by kernel_rfl⟩
instance :Fun prog 65:=⟨by kernel_rfl⟩
instance :Fun prog 67:=⟨by kernel_rfl⟩
instance :Fun prog 68:=⟨by kernel_rfl⟩
instance :Fun prog 69:=⟨by kernel_rfl⟩
instance :Fun prog 70:=⟨by kernel_rfl⟩
instance :Fun prog 71:=⟨by kernel_rfl⟩
instance :Fun prog 72:=⟨by kernel_rfl⟩
instance :Fun prog 73:=⟨by kernel_rfl⟩
instance :Fun prog 74:=⟨by kernel_rfl⟩
instance :Fun prog 75:=⟨by kernel_rfl⟩
instance :Fun prog 76:=⟨by kernel_rfl⟩
instance :Fun prog 77:=⟨by kernel_rfl⟩
instance :Fun prog 78:=⟨by kernel_rfl⟩
instance :Fun prog 79:=⟨by kernel_rfl⟩
instance :Fun prog 80:=⟨by kernel_rfl⟩
instance :Fun prog 81:=⟨by kernel_rfl⟩
instance :Fun prog 82:=⟨by kernel_rfl⟩
instance :Fun prog 83:=⟨by kernel_rfl⟩
instance :Fun prog 84:=⟨by kernel_rfl⟩
instance :Fun prog 85:=⟨by kernel_rfl⟩
instance :Fun prog 86:=⟨by kernel_rfl⟩
instance :Fun prog 87:=⟨by kernel_rfl⟩
instance :Fun prog 88:=⟨by kernel_rfl⟩
instance :Fun prog 89:=⟨by kernel_rfl⟩
instance :Fun prog 90:=⟨by kernel_rfl⟩
instance :Fun prog 99:=⟨by kernel_rfl⟩
instance :Fun prog 100:=⟨by kernel_rfl⟩
instance :Fun prog 102:=⟨by kernel_rfl⟩
instance :Fun prog 104:=⟨by kernel_rfl⟩
instance :Fun prog 105:=⟨by kernel_rfl⟩
instance :Fun prog 107:=⟨by kernel_rfl⟩
instance :Fun prog 109:=⟨by kernel_rfl⟩
instance :Fun prog 110:=⟨by kernel_rfl⟩
instance :Fun prog 111:=⟨by kernel_rfl⟩
instance :Fun prog 112:=⟨by kernel_rfl⟩
instance :Fun prog 113:=⟨by kernel_rfl⟩
instance :Fun prog 114:=⟨by kernel_rfl⟩
instance :Fun prog 115:=⟨by kernel_rfl⟩
instance :Fun prog 116:=⟨by kernel_rfl⟩
instance :Fun prog 118:=⟨by kernel_rfl⟩
instance :Fun prog 119:=⟨by kernel_rfl⟩
instance :Fun prog 120:=⟨by kernel_rfl⟩
instance :Fun prog 121:=⟨by kernel_rfl⟩
instance :Fun prog 122:=⟨by kernel_rfl⟩
instance :Fun prog 123:=⟨by kernel_rfl⟩
instance :Fun prog 124:=⟨by kernel_rfl⟩
instance :Fun prog 125:=⟨by kernel_rfl⟩
instance :Fun prog 126:=⟨by kernel_rfl⟩
instance :Fun prog 127:=⟨by kernel_rfl⟩
instance :Fun prog 128:=⟨by kernel_rfl⟩
instance :Fun prog 129:=⟨by kernel_rfl⟩
instance :Fun prog 130:=⟨by kernel_rfl⟩
instance :Fun prog 131:=⟨by kernel_rfl⟩
instance :Fun prog 133:=⟨by kernel_rfl⟩
instance :Fun prog 134:=⟨by kernel_rfl⟩
instance :Fun prog 136:=⟨by kernel_rfl⟩
instance :Fun prog 139:=⟨by kernel_rfl⟩
instance :Fun prog 141:=⟨by kernel_rfl⟩
instance :Fun prog 154:=⟨by kernel_rfl⟩
instance :Fun prog 155:=⟨by kernel_rfl⟩
instance :Fun prog 156:=⟨by kernel_rfl⟩
instance :Fun prog 157:=⟨by kernel_rfl⟩
instance :Fun prog 158:=⟨by kernel_rfl⟩
instance :Fun prog 159:=⟨by kernel_rfl⟩
instance :Fun prog 160:=⟨by kernel_rfl⟩
instance :Fun prog 161:=⟨by kernel_rfl⟩
instance :Fun prog 162:=⟨by kernel_rfl⟩
instance :Fun prog 163:=⟨by kernel_rfl⟩
instance :Fun prog 164:=⟨by kernel_rfl⟩
instance :Fun prog 165:=⟨by kernel_rfl⟩
instance :Fun prog 166:=⟨by kernel_rfl⟩
instance :Fun prog 167:=⟨by kernel_rfl⟩
instance :Fun prog 168:=⟨by kernel_rfl⟩
instance :Fun prog 169:=⟨by kernel_rfl⟩
instance :Fun prog 171:=⟨by kernel_rfl⟩
instance :Fun prog 172:=⟨by kernel_rfl⟩
instance :Fun prog 173:=⟨by kernel_rfl⟩
instance :Fun prog 174:=⟨by kernel_rfl⟩
instance :Fun prog 175:=⟨by kernel_rfl⟩
instance :Fun prog 176:=⟨by kernel_rfl⟩
instance :Fun prog 177:=⟨by kernel_rfl⟩
instance :Fun prog 178:=⟨by kernel_rfl⟩
instance :Fun prog 179:=⟨by kernel_rfl⟩
instance :Fun prog 180:=⟨by kernel_rfl⟩
instance :Fun prog 181:=⟨by kernel_rfl⟩
instance :Fun prog 182:=⟨by kernel_rfl⟩
instance :Fun prog 183:=⟨by kernel_rfl⟩
instance :Fun prog 184:=⟨by kernel_rfl⟩
instance :Fun prog 185:=⟨by kernel_rfl⟩
instance :Fun prog 188:=⟨by kernel_rfl⟩
instance :Fun prog 189:=⟨by kernel_rfl⟩
instance :Fun prog 190:=⟨by kernel_rfl⟩
instance :Fun prog 191:=⟨by kernel_rfl⟩
instance :Fun prog 192:=⟨by kernel_rfl⟩
instance :Fun prog 193:=⟨by kernel_rfl⟩
instance :Fun prog 194:=⟨by kernel_rfl⟩
instance :Fun prog 195:=⟨by kernel_rfl⟩
instance :Fun prog 196:=⟨by kernel_rfl⟩
instance :Fun prog 215:=⟨by kernel_rfl⟩
instance :Fun prog 216:=⟨by kernel_rfl⟩
instance :Fun prog 217:=⟨by kernel_rfl⟩
instance :Fun prog 218:=⟨by kernel_rfl⟩
instance :Fun prog 219:=⟨by kernel_rfl⟩
instance :Fun prog 220:=⟨by kernel_rfl⟩
instance :Fun prog 221:=⟨by kernel_rfl⟩
instance :Fun prog 222:=⟨by kernel_rfl⟩
instance :Fun prog 223:=⟨by kernel_rfl⟩
instance :Fun prog 224:=⟨by kernel_rfl⟩
instance :Fun prog 225:=⟨by kernel_rfl⟩
instance :Fun prog 226:=⟨by kernel_rfl⟩
instance :Fun prog 227:=⟨by kernel_rfl⟩
instance :Fun prog 229:=⟨by kernel_rfl⟩
instance :Fun prog 230:=⟨by kernel_rfl⟩
instance :Fun prog 231:=⟨by kernel_rfl⟩
instance :Fun prog 232:=⟨by kernel_rfl⟩
instance :Fun prog 233:=⟨by kernel_rfl⟩
instance :Fun prog 234:=⟨by kernel_rfl⟩
instance :Fun prog 235:=⟨by kernel_rfl⟩
instance :Fun prog 236:=⟨by kernel_rfl⟩
instance :Fun prog 237:=⟨by kernel_rfl⟩
instance :Fun prog 240:=⟨by kernel_rfl⟩
instance :Fun prog 241:=⟨by kernel_rfl⟩
instance :Fun prog 242:=⟨by kernel_rfl⟩
instance :Fun prog 243:=⟨by kernel_rfl⟩
instance :Fun prog 244:=⟨by kernel_rfl⟩
instance :Fun prog 246:=⟨by kernel_rfl⟩
instance :Fun prog 247:=⟨by kernel_rfl⟩
instance :Fun prog 248:=⟨by kernel_rfl⟩
instance :Fun prog 254:=⟨by kernel_rfl⟩
instance :Fun prog 255:=⟨by kernel_rfl⟩
instance :Fun prog 256:=⟨by kernel_rfl⟩
instance :Fun prog 257:=⟨by kernel_rfl⟩
instance :Fun prog 258:=⟨by kernel_rfl⟩
instance :Fun prog 262:=⟨by kernel_rfl⟩
instance :Fun prog 264:=⟨by kernel_rfl⟩
instance :Fun prog 265:=⟨by kernel_rfl⟩
instance :Fun prog 266:=⟨by kernel_rfl⟩
instance :Fun prog 267:=⟨by kernel_rfl⟩
instance :Fun prog 268:=⟨by kernel_rfl⟩
instance :Fun prog 280:=⟨by kernel_rfl⟩
end Go.Proofs.YtbgnigjfkbmceaaGreatDoor
namespace Go.Proofs.YtbgnigjfkbmceaaGreatDoor
abbrev AM:=ByteArray
abbrev AG:=Int×Int
abbrev BM:=AM×Int
abbrev DE:=Int×AG
abbrev Kt:=AG×AM×AG×AG
structure Nod where
 ino:Int
 kind:Int
 mode:Int
 uid:Int
 gid:Int
 parent:Int
 target:AM
 entries:List BM
structure Dvc where
 next:Int
 nodes:List Nod
abbrev Af:=List Dvc
structure Spc where
 files:Af
 mounts:List DE
def Nod.zero:Nod:=⟨0,0,0,0,0,0,⟨#[]⟩,[]⟩
def JO{α:Type}(p:α→Bool)(l:List α):Int:=
 match l.findIdx? p with
 |some i=>(i:Int)
 |none=> -1
def F9{α:Type}(l:List α)(i:Int):Option α:=if i<0 then none else l[i.toNat]?
theorem JP{α:Type}(l:List α)(k:Nat):F9 l (k:Int)=l[k]?:=by
 simp[F9,show¬((k:Int)<0) by omega]
theorem Mi{α:Type}{l:List α}{i:Int}(h:i<0∨(l.length:Int)≤i):F9 l i=none:=by
 unfold F9;split
 ·rfl
 rw[List.getElem?_eq_none];omega
theorem WE{α:Type}{l:List α}{i:Int}{x:α}(h:F9 l i=some x):0≤i∧i<l.length∧l[i.toNat]?=some x:=by
 unfold F9 at h;split at h
 ·cases h
 have:=(Al.1 h).1;exact⟨by omega,by omega,h⟩
theorem RW{α:Type}{p:α→Bool}{l:List α}{m:Nat}{x:α}(hx:l[m]?=some x)(hp:p x=true)(h:∀j y,j<m→l[j]?=some y→p y=false):l.findIdx? p=some m:=by
 have hl:m<l.length:=(Al.1 hx).1;rw[List.findIdx?_eq_some_iff_getElem];refine⟨hl,by rw[(Al.1 hx).2];exact hp,fun j hj=>?_⟩;have:=h j l[j] hj (BV _);simp[this]
theorem RX{α:Type}{p:α→Bool}{l:List α}{m:Nat}{x:α}(hx:l[m]?=some x)(hp:p x=true)(h:∀j y,j<m→l[j]?=some y→p y=false):JO p l=m:=by
 unfold JO;rw[RW hx hp h]
theorem WF{α:Type}{p:α→Bool}{l:List α}(h:∀j y,j<l.length→l[j]?=some y→p y=false):JO p l= -1:=by
 unfold JO;rw[List.findIdx?_eq_none_iff.2];intro x hx;obtain⟨j,hj,rfl⟩:=List.mem_iff_getElem.1 hx;exact h j _ hj (BV hj)
theorem FA{α:Type}{P:α→Prop}{l:List α}{m:Nat}{x:α}(hx:l[m]?=some x)(h:∀j y,j<m→l[j]?=some y→P y)(hp:P x):∀j y,j<m+1→l[j]?=some y→P y:=by
 intro j y hj hy;by_cases e:j=m
 ·subst e;rw[hx]at hy;cases hy;exact hp
 exact h j y (by omega) hy
def EO(f:Af)(at_:AG):Int:=
 match F9 f at_.1 with
 |none=> -1
 |some d=>JO (fun n:Nod=>n.ino==at_.2) d.nodes
def Bp(f:Af)(at_:AG):Option Nod:=
 match F9 f at_.1 with
 |none=>none
 |some d=>d.nodes.find? (fun n:Nod=>n.ino==at_.2)
theorem RY{α:Type}{p:α→Bool}{l:List α}:(l.findIdx? p).bind (fun i=>l[i]?)=l.find? p:=by
 cases h:l.findIdx? p with
 |none=>
   rw[List.findIdx?_eq_none_iff]at h;simp only[Option.bind_none];exact(List.find?_eq_none.2 (fun x hx=>by simp[h x hx])).symm
 |some i=>
   obtain⟨hi,hp,hf⟩:=List.findIdx?_eq_some_iff_getElem.1 h;simp only[Option.bind_some,BV hi];exact(List.find?_eq_some_iff_getElem.2 ⟨hp,i,hi,rfl,fun j hj=>by simpa using hf j hj⟩).symm
theorem Gi(f:Af)(at_:AG):(EO f at_= -1∧Bp f at_=none)∨
    ∃(k i:Nat) (d:Dvc) (n:Nod),at_.1=k∧f[k]?=some d∧d.nodes[i]?=some n∧n.ino=at_.2∧EO f at_=i∧Bp f at_=some n:=by
 unfold EO Bp
 cases h:F9 f at_.1 with
 |none=>exact .inl ⟨rfl,rfl⟩
 |some d=>
   obtain⟨h0,h1,h2⟩:=WE h;simp only[←RY];unfold JO
   cases hi:d.nodes.findIdx? (fun n:Nod=>n.ino==at_.2)with
   |none=>exact .inl ⟨rfl,rfl⟩
   |some i=>
     obtain⟨hl,hp,_⟩:=List.findIdx?_eq_some_iff_getElem.1 hi;exact .inr ⟨at_.1.toNat,i,d,d.nodes[i],by omega,h2,BV hl,by simpa using hp,rfl,by simp⟩
theorem Mj(a b:AM):(a.toList==b.toList)=decide (a=b):=by
 rw[ByteArray.toList_eq,ByteArray.toList_eq,Bool.eq_iff_iff];simp only[beq_iff_eq,decide_eq_true_eq];constructor
 ·intro h
  cases a with
  |mk a=>
    cases b with
    |mk b=>exact congrArg ByteArray.mk (Array.toList_inj.1 h)
 intro h;rw[h]
def Gj(c:UInt8):Bool:= !((c.toNat:Int)==0)&& !((c.toNat:Int)==47)
def D4(s:AM):Bool:=
 if s.size<1∨12<s.size then false else if(s.toList==[46])=true then false else if(s.toList==[46,46])=true then false else s.data.toList.all Gj
def JQ(s:AM):Bool:=s.data.toList.all (fun c=> !((c.toNat:Int)==0))&&decide (1≤s.size)&&decide (s.size≤128)
theorem RZ{p:UInt8→Bool}{s:AM}(h:∀j (hj:j<s.size),p s[j]=true):s.data.toList.all p=true:=by
 rw[List.all_eq_true];intro c hc;obtain⟨j,hj,rfl⟩:=List.mem_iff_getElem.1 hc;exact h j (by simpa using hj)
theorem Of{p:UInt8→Bool}{s:AM}{j:Nat}(hj:j<s.size)(h:p s[j]=false):s.data.toList.all p=false:=by
 rw[List.all_eq_false];refine⟨s[j],?_,by simp[h]⟩;have:s[j]=s.data.toList[j]'(by simpa using hj):=rfl;rw[this];exact List.getElem_mem _
theorem Ra{p:UInt8→Bool}{s:AM}{m:Nat}(hm:m<s.size)(h:∀j (hj:j<s.size),j<m→p s[j]=true)(hp:p s[m]=true):∀j (hj:j<s.size),j<m+1→p s[j]=true:=by
 intro j hj hlt;by_cases e:j=m
 ·subst e;exact hp
 exact h j hj (by omega)
def Ax(f:Af)(at_:AG):Bool:=
 match Bp f at_ with
 |none=>false
 |some n=>n.kind==2
def CF(f:Af)(dir:AG)(name:AM):Int:=
 match Bp f dir with
 |none=>2
 |some n=>if n.kind=2 then(if D4 name then 0 else 22)else 20
def Gk(f:Af)(dir:AG):Bool:=
 match Bp f dir with
 |none=>false
 |some n=>decide (12≤n.entries.length)
def Hk(f:Af)(dir:AG):Bool:=
 match Bp f dir with
 |none=>true
 |some n=>decide (n.entries.length=0)
def AU(f:Af)(dir:AG)(name:AM):AG×Int:=
 match Bp f dir with
 |none=>((0,0),2)
 |some n=>if n.kind=2 then
     match n.entries.find? (fun e:BM=>decide (e.1=name))with
     |none=>((0,0),2)
     |some e=>((dir.1,e.2),0)
   else((0,0),20)
def EF(n:Nod):Bool:=
 if n.kind<1∨3<n.kind∨n.mode<0∨511<n.mode∨n.uid<0∨4294967295<n.uid∨n.gid<0∨4294967295<n.gid then false
 else if n.kind=3 then JQ n.target else n.target.toList.isEmpty
end Go.Proofs.YtbgnigjfkbmceaaGreatDoor
namespace Go.Proofs.YtbgnigjfkbmceaaGreatDoor
def EG(a b:AM):Bool:=Op.bytesLess a.toList b.toList
def Ep(name:AM)(ino:Int):Bool→List BM→List BM
 |done,[]=>if done then[]else[(name,ino)]
 |done,e::r=>
   (if !done&& !EG e.1 name then[(name,ino)]else[])++((if e.1=name then[]else[e])++Ep name ino (done|| !EG e.1 name) r)
def CP(es:List BM)(name:AM)(ino:Int):List BM:=Ep name ino (ino==0) es
def CV(ino:Int)(es:List BM):Nat:=es.countP fun e:BM=>e.2==ino
def Bc(ino:Int)(ns:List Nod):Nat:=CV ino (ns.flatMap fun n=>n.entries)
def Fb(f:Af)(at_:AG):Nat:=
 match Bp f at_,F9 f at_.1 with
 |some _,some d=>Bc at_.2 d.nodes
 |_,_=>0
theorem Mk{ino:Int}{es:List BM}{k:Nat}{e:BM}(h:es[k]?=some e):CV ino (es.take (k+1))=CV ino (es.take k)+(if e.2==ino then 1 else 0):=by
 unfold CV;rw[List.take_add_one,h,List.countP_append];simp[List.countP_cons]
theorem WG(ino:Int)(es:List BM):CV ino es≤es.length:=List.countP_le_length
theorem WH{ino:Int}{ns:List Nod}{m:Nat}{n:Nod}(h:ns[m]?=some n):Bc ino (ns.take (m+1))=Bc ino (ns.take m)+CV ino n.entries:=by
 unfold Bc CV;rw[List.take_add_one,h,List.flatMap_append,List.countP_append];simp
def CW(ino:Int)(ns:List Nod):List Nod:=ns.filter fun n=>n.ino != ino
def Ml:Nod:=⟨1,2,493,0,0,1,⟨#[]⟩,[]⟩
def Ju:Dvc:=⟨2,[Ml]⟩
def E6(n:Int):Af×Int:=if n<1∨3<n then([],50)else(List.replicate n.toNat Ju,0)
abbrev JR:=Af×List Kt×Int
def Dy(n:Nod)(next dirIno:Int):Nod:=⟨next,n.kind,n.mode,n.uid,n.gid,if n.kind=2 then dirIno else 0,n.target,[]⟩
end Go.Proofs.YtbgnigjfkbmceaaGreatDoor
namespace Go.Proofs.YtbgnigjfkbmceaaGreatDoor
open Go.RowKit
theorem Bt{α:Type}(enc:α→List AV){l:List α}{k:Nat}(h:(k:Int)<((l.map enc).length:Int)):k<l.length∧∃x,l[k]?=some x∧(l.map enc)[k]?=some (enc x)∧(l.take (k+1)).map enc=(l.take k).map enc++[enc x]:=by
 have hk:k<l.length:=by simpa using h
 refine⟨hk,l[k],BV hk,by simp[hk],?_⟩;rw[List.take_succ_eq_append_getElem hk,List.map_append];rfl
theorem C9{α:Type}(enc:α→List AV){l:List α}{k:Nat}(hk:k≤l.length)(h:¬(k:Int)<((l.map enc).length:Int)):k=l.length:=by
 simp at h;omega
theorem vb{a b:Bool}(h:a=b):AV.v (.bool a)=AV.v (.bool b):=by rw[h]
theorem vi{k:IntKind}{a b:Int}(h:a=b):AV.v (.int k a)=AV.v (.int k b):=by rw[h]
def AF(x:AG):List AV:=[.v (.int .i64 x.1), .v (.int .i64 x.2)]
def CG(e:BM):List AV:=[.v (.string e.1), .v (.int .i64 e.2)]
def Ap(n:Nod):List AV:=[.v (.int .i64 n.ino), .v (.int .i64 n.kind), .v (.int .i64 n.mode), .v (.int .i64 n.uid), .v (.int .i64 n.gid), .v (.int .i64 n.parent), .v (.string n.target), .sl 2 (n.entries.map CG) none]
def Bo(d:Dvc):List AV:=[.v (.int .i64 d.next), .sl 8 (d.nodes.map Ap) none]
def At(f:Af):List AV:=[.sl 2 (f.map Bo) none]
structure FlsB(f:Af):Prop where
 few:f.length≤1000
 nodes:∀d∈f,d.nodes.length≤1000
 ents:∀d∈f,∀n∈d.nodes,n.entries.length≤1000
theorem Og{f:Af}{a:AG}{k:Nat}{d:Dvc}(hk:a.1=(k:Int))(hd:f[k]?=some d):EO f a=JO (fun n:Nod=>n.ino==a.2) d.nodes:=by
 unfold EO;rw[hk,JP,hd]
def Au(f:Af)(a:AG):Nod:=(Bp f a).getD Nod.zero
def Ck(f:Af)(a:AG):Bool:=(Bp f a).isSome
theorem FB(f:Af)(a:AG):Ax f a=(Ck f a&&decide ((Au f a).kind=2)):=by
 unfold Ax Ck Au;cases Bp f a<;>simp[OC]
theorem Ku{f:Af}(hf:FlsB f)(a:AG):(Au f a).entries.length≤1000:=by
 rcases Gi f a with⟨-,h⟩|⟨k,i,d,n, -,h1,h2, -, -,h⟩
 ·simp[Au,h,Nod.zero]
 simp only[Au,h,Option.getD_some];exact hf.ents d (B1 h1) n (B1 h2)
section
theorem Hl(f:Af)(a:AG)(hf:FlsB f):AFn prog 179 [.agg (At f), .agg (AF a)] (fun r=>r= .v (.int .i64 (EO f a))):=by
 refine enter Tryz.func179 rfl rfl rfl rfl rfl 0 rfl ?_;refine w_ (b_ (h:=b_ (h:=a_ (h:=e_ (q_ (w_ (f_ (h:=l_ (h:=B4 (h:=m_ (h:=?_)))))))))));refine AT false rfl rfl (fun hb1=>?_) (fun hb1=>?_)
 ·have hc1:=bp hb1;refine A3 (h:=A3 (h:=A3 (h:=A3 (h:=A3 (h:=A3 (h:=AA (h:=e_ (B6 (h:=w_ (a_ (h:=e_ (A4 (A8 (?_))))))))))))));refine A7 ?_;exact vi (by unfold EO;rw[Mi (.inl hc1)])
 have hc1:=bp hb1;refine f_ (h:=l_ (h:=f_ (h:=l_ (h:=n_ (h:=Cm (h:=AE (h:=e_ (?_))))))));refine A9 rfl (fun hb2=>?_) (fun hb2=>?_)
 ·have hc2:=bp hb2;refine w_ (a_ (h:=e_ (A4 (A8 (?_)))));refine A7 ?_;exact vi (by unfold EO;rw[Mi (.inr (by rw[List.length_map]at hc2;exact hc2))])
 have hc2:=bp hb2;obtain⟨k,hk⟩:=Int.eq_ofNat_of_zero_le (show 0≤a.1 by omega);rw[hk]at hc2;obtain⟨-,d,hd,hrow, -⟩:=Bt Bo (l:=f) (k:=k) (by omega);have hdn:=hf.nodes d (B1 hd);refine AD (w_ (f_ (h:=l_ (h:=f_ (h:=l_ (h:=?_))))));refine A6 rfl (DX (n:=k) rfl rfl hk hrow ?_);refine f_ (h:=l_ (h:=a_ (h:=e_ (q_ (w_ (a_ (h:=e_ (Ab (?_)))))))));refine BT (fun m s=>∃j:Nat,j≤d.nodes.length∧m=d.nodes.length - j∧(∀i y,i<j→d.nodes[i]?=some y→(y.ino==a.2)=false)∧s=⟨look [(3, .bp 1 0),(5, .sl 8 (d.nodes.map Ap) none),(6, .v (.int .i64 (j:Int)))],⟨[At f,AF a],[]⟩⟩) (d.nodes.length) ((wk 2 0)) (⟨0,by omega,rfl,fun i y hi=>by omega,rfl⟩) ?_;rintro m s ⟨j,hj,rfl,ha,rfl⟩;refine q_ (w_ (m_ (h:=m_ (h:=n_ (h:=B4 (h:=e_ (?_)))))));refine A9 rfl (fun hb3=>?_) (fun hb3=>?_)
 ·have hc3:=bp hb3;obtain⟨hlt,n,hy,hrow2, -⟩:=Bt Ap hc3;refine AD (q_ (Ab (q_ (Cj 8 (h:=Ac 0 (h:=Ac 1 (h:=Cl 2 (h:=Aw 3 (h:=AO 4 (h:=Aw 5 (h:=AO 6 (h:=Eb 7 (h:=z_ (h:=t_ (?_)))))))))))))));refine A9 rfl (fun hb4=>?_) (fun hb4=>?_)
  ·have hc4:=bp hb4;refine w_ (m_ (h:=a_ (h:=e_ (A4 (AN (A8 (A8 (AN (A8 (?_))))))))));refine A7 ?_;exact vi (by rw[Og hk hd];exact(RX hy (by simpa using hc4) ha).symm)
  have hc4:=bp hb4;refine Aq (Ai (t_ (AR (m_ (h:=B8 (h:=a_ (h:=AP (?_))))))));refine AJ ?_;refine⟨_,_,?_,⟨j+1,by omega,rfl,FA hy ha (by simpa using hc4),rfl⟩,(wk 2 0)⟩;omega
 have hc3:=bp hb3;have e:=C9 Ap hj hc3;subst e;refine BF (Ah (Ah (BG (t_ (w_ (a_ (h:=e_ (A4 (?_)))))))));refine A7 ?_;exact vi (by rw[Og hk hd];exact(WF (fun i y hi hy=>ha i y hi hy)).symm)
theorem Ec(f:Af)(a:AG)(hf:FlsB f):AFn prog 123 [.agg (At f), .agg (AF a)] (fun r=>r= .tup [.agg (Ap (Au f a)), .v (.bool (Ck f a))]):=by
 refine enter Tryz.func123 rfl rfl rfl rfl rfl 0 rfl ?_;refine w_ (b_ (h:=b_ (h:=Aa (h:=a_ (h:=e_ (w_ (l_ (h:=l_ (h:=?_)))))))));refine A6 rfl (AB (Hl f a hf) ?_);rintro r rfl;refine a_ (h:=e_ (q_ (w_ (m_ (h:=B4 (h:=e_ (?_)))))));refine A9 rfl (fun hb1=>?_) (fun hb1=>?_)
 ·have hc1:=bp hb1
  have e:Bp f a=none:=by
   rcases Gi f a with h|⟨k,i,d,n, -, -, -, -,h, -⟩
   ·exact h.2
   exfalso;omega
  refine w_ (AX (h:=s_ (h:=a_ (h:=e_ (A4 (A8 (?_)))))));refine Av (r:= .tup [.agg (Ap (Au f a)), .v (.bool (Ck f a))]) none (h5:=?_) (h6:=⟨rfl,rfl,rfl⟩);rw[show Au f a=Nod.zero by simp[Au,e],show Ck f a=false by simp[Ck,e]];exact(by repeat (first|exact AZ _|exact LeA.nil _|exact LeL.refl _|refine LeA.agg ?_|refine LeA.tup ?_|exact LeL.nil|refine LeL.cons ?_ ?_|exact LeA.any _))
 have hc1:=bp hb1;obtain⟨k,i,d,n,g1,g2,g3,g4,g5,g6⟩:=(Gi f a).resolve_left (fun h=>by omega);rw[g5];have hr1:(f.map Bo)[k]?=some (Bo d):=by rw[List.getElem?_map,g2];rfl
 have hr2:(d.nodes.map Ap)[i]?=some (Ap n):=by rw[List.getElem?_map,g3];rfl
 have hen:=hf.ents d (B1 g2) n (B1 g3);refine AD (w_ (f_ (h:=l_ (h:=f_ (h:=l_ (h:=?_))))));refine A6 rfl (DX (n:=k) rfl rfl g1 hr1 ?_);refine f_ (h:=l_ (h:=m_ (h:=?_)));refine A6 rfl (DX (n:=i) rfl rfl rfl hr2 ?_);refine l_ (h:=Aa (h:=s_ (h:=e_ (w_ (f_ (h:=l_ (h:=?_)))))))
 first|refine A6 rfl (E2 rfl rfl rfl (by simp;omega) (by repeat constructor) ?_)|refine A6 rfl (E3 rfl rfl (by simp;omega) (by repeat constructor) ?_)
 refine f_ (h:=s_ (h:=e_ (w_ (l_ (h:=s_ (h:=a_ (h:=e_ (A4 (?_)))))))));refine A7 ?_;rw[show Au f a=n by simp[Au,g6],show Ck f a=true by simp[Ck,g6]];rfl
theorem Gl(f:Af)(a:AG)(hf:FlsB f):AFn prog 185 [.agg (At f), .agg (AF a)] (fun r=>r= .v (.bool (Ax f a))):=by
 refine enter Tryz.func185 rfl rfl rfl rfl rfl 0 rfl ?_;refine w_ (b_ (h:=b_ (h:=a_ (h:=e_ (w_ (l_ (h:=l_ (h:=?_))))))));refine A6 rfl (AB (Ec f a hf) ?_);rintro r rfl;refine m_ (h:=x_ (h:=x_ (h:=Aa (h:=s_ (h:=a_ (h:=e_ (w_ (m_ (h:=m_ (h:=?_))))))))));refine AT true rfl rfl (fun hb1=>?_) (fun hb1=>?_)
 ·have hc1:=bp hb1;refine f_ (h:=l_ (h:=AK (h:=AA (h:=a_ (h:=e_ (A4 (?_)))))));refine A7 ?_;exact vb (by rw[FB];simp[*])
 have hc1:=bp hb1;refine A3 (h:=A3 (h:=A3 (h:=AE (h:=a_ (h:=e_ (A4 (?_)))))));refine A7 ?_;exact vb (by rw[FB];simp[*])
end
end Go.Proofs.YtbgnigjfkbmceaaGreatDoor
namespace Go.Proofs.YtbgnigjfkbmceaaGreatDoor
structure Tst where
 fld:Int
 op:Int
 num:Int
 text:AM
 other:Int
structure Rul where
 list:Int
 action:Int
 calls:Int
 tests:List Tst
 watch:Int
 path:AM
 perm:Int
 key:AM
structure Itm where
 given:AM
 path:AM
 dir:AG
 name:AM
 file:AG
 role:Int
 kind:Int
 mode:Int
 uid:Int
 gid:Int
 perm:Int
structure Ctx where
 phase:Int
 pid:Int
 ppid:Int
 uid:Int
 euid:Int
 gid:Int
 egid:Int
 auid:Int
 ses:Int
 cwd:AG
 comm:AM
 exe:AM
 audited:Bool
 number:Int
 a0:Int
 a1:Int
 a2:Int
 a3:Int
 ext:Int
 items:List Itm
 typ:Int
def Itm.zero:Itm:=⟨⟨#[]⟩,⟨#[]⟩,(0,0),⟨#[]⟩,(0,0),0,0,0,0,0,0⟩
def CA(f:Int):Bool:=decide (1≤f∧f≤8∨f=13∨f=14)
def DF(list f:Int):Bool:=
 if list=1∨list=4 then CA f
 else if list=2 then decide (1≤f∧f≤14)
 else if list=3 then decide (1≤f∧f≤21)
 else if list=5 then decide (1≤f∧f≤8∨f=13∨f=14∨f=22)
 else false
def D5(f:Int):Bool:=decide (f=13∨f=14)
def DG(f:Int):Bool:=decide (f=3∨f=4∨f=5∨f=6∨f=7∨f=19∨f=20)
def Dp(f:Int):Bool:=decide (17≤f∧f≤21)
def BU(t:Tst)(list:Int):Int:=
 if DF list t.fld=false∨t.other≠0∧(DF list t.other=false∨DG t.fld=false∨DG t.other=false)then 120
 else if t.op<1∨8<t.op∨2<t.op∧(D5 t.fld=true∨t.other≠0)then 121
 else if t.other≠0∧(t.num≠0∨t.text.size≠0)then 122
 else if D5 t.fld=true∧(t.num≠0∨t.text.size=0∨640<t.text.size)then 122
 else if D5 t.fld=false∧t.text.size≠0 then 122
 else 0
def Bi(f:Int)(c:Ctx)(y:Itm):Int:=
 if f=1 then c.pid else if f=2 then c.ppid else if f=3 then c.uid else if f=4 then c.euid else if f=5 then c.gid else if f=6 then c.egid
 else if f=7 then c.auid else if f=8 then c.ses else if f=9 then c.a0 else if f=10 then c.a1 else if f=11 then c.a2 else if f=12 then c.a3
 else if f=15 then c.ext else if f=16 then(if 0≤c.ext then 1 else 0)else if f=17 then y.file.2 else if f=18 then y.file.1
 else if f=19 then y.uid else if f=20 then y.gid else if f=21 then y.kind else c.typ
def Bk(f:Int)(c:Ctx):Bool:=
 if 1≤f∧f≤12 then true else if f=22 then decide (c.typ≠0)else if 15≤f∧f≤21 then decide (c.phase=2)else false
def D6(f:Int)(c:Ctx):Bool:=
 if 15≤f∧f≤21 then decide (c.phase=2)else decide (f≠22∨c.typ≠0)
end Go.Proofs.YtbgnigjfkbmceaaGreatDoor
namespace Go.Proofs.YtbgnigjfkbmceaaGreatDoor
open Go.RowKit
def Bu(t:Tst):List AV:=[.v (.int .i64 t.fld), .v (.int .i64 t.op), .v (.int .i64 t.num), .v (.string t.text), .v (.int .i64 t.other)]
def Ak(r:Rul):List AV:=[.v (.int .i64 r.list), .v (.int .i64 r.action), .v (.int .u64 r.calls), .sl 5 (r.tests.map Bu) none, .v (.int .i64 r.watch), .v (.string r.path), .v (.int .i64 r.perm), .v (.string r.key)]
def CN(y:Itm):List AV:=[.v (.string y.given), .v (.string y.path), .v (.int .i64 y.dir.1), .v (.int .i64 y.dir.2), .v (.string y.name), .v (.int .i64 y.file.1), .v (.int .i64 y.file.2), .v (.int .i64 y.role), .v (.int .i64 y.kind), .v (.int .i64 y.mode), .v (.int .i64 y.uid), .v (.int .i64 y.gid), .v (.int .i64 y.perm)]
structure Cxs where
 os:List (List AV)
 ps:List (List AV)
 rs:List (List AV)
def Bf(c:Ctx)(k:Cxs):List AV:=[.v (.int .i64 c.phase), .v (.int .i64 c.pid), .v (.int .i64 c.ppid), .v (.int .i64 c.uid), .v (.int .i64 c.euid), .v (.int .i64 c.gid), .v (.int .i64 c.egid), .v (.int .i64 c.auid), .v (.int .i64 c.ses), .v (.int .i64 c.cwd.1), .v (.int .i64 c.cwd.2), .v (.string c.comm), .v (.string c.exe), .sl 4 k.os none, .v (.bool c.audited),
 .v (.int .i64 c.number), .v (.int .i64 c.a0), .v (.int .i64 c.a1), .v (.int .i64 c.a2), .v (.int .i64 c.a3), .sl 1 k.ps none, .sl 1 k.rs none, .v (.int .i64 c.ext), .sl 13 (c.items.map CN) none, .v (.int .i64 c.typ)]
section
theorem Ed(f:Int):AFn prog 221 [.v (.int .i64 f)] (fun r=>r= .v (.bool (D5 f))):=by
 refine enter Tryz.func221 rfl rfl rfl rfl rfl 0 rfl ?_;refine w_ (a_ (h:=e_ (w_ (m_ (h:=AK (h:=m_ (h:=?_)))))));refine AT false rfl rfl (fun hb1=>?_) (fun hb1=>?_)
 ·have hc1:=bp hb1;refine A3 (h:=A3 (h:=AA (h:=a_ (h:=e_ (A4 (?_))))));refine A7 ?_;exact vb (by unfold D5;rw[Bool.eq_iff_iff];simp;try omega)
 have hc1:=bp hb1;refine m_ (h:=AK (h:=AE (h:=a_ (h:=e_ (A4 (?_))))));refine A7 ?_;exact vb (by unfold D5;rw[Bool.eq_iff_iff];simp;try omega)
theorem Gm(f:Int):AFn prog 217 [.v (.int .i64 f)] (fun r=>r= .v (.bool (D5 f))):=by
 refine enter Tryz.func217 rfl rfl rfl rfl rfl 0 rfl ?_;refine w_ (a_ (h:=e_ (w_ (m_ (h:=AK (h:=m_ (h:=?_)))))));refine AT false rfl rfl (fun hb1=>?_) (fun hb1=>?_)
 ·have hc1:=bp hb1;refine A3 (h:=A3 (h:=AA (h:=a_ (h:=e_ (A4 (?_))))));refine A7 ?_;exact vb (by unfold D5;rw[Bool.eq_iff_iff];simp;try omega)
 have hc1:=bp hb1;refine m_ (h:=AK (h:=AE (h:=a_ (h:=e_ (A4 (?_))))));refine A7 ?_;exact vb (by unfold D5;rw[Bool.eq_iff_iff];simp;try omega)
theorem Rb(f:Int):AFn prog 160 [.v (.int .i64 f)] (fun r=>r= .v (.bool (Dp f))):=by
 refine enter Tryz.func160 rfl rfl rfl rfl rfl 0 rfl ?_;refine w_ (a_ (h:=e_ (w_ (m_ (h:=Cm (h:=m_ (h:=?_)))))));refine AT true rfl rfl (fun hb1=>?_) (fun hb1=>?_)
 ·have hc1:=bp hb1;refine m_ (h:=Dn (h:=AA (h:=a_ (h:=e_ (A4 (?_))))));refine A7 ?_;exact vb (by unfold Dp;rw[Bool.eq_iff_iff];simp;try omega)
 have hc1:=bp hb1;refine A3 (h:=A3 (h:=AE (h:=a_ (h:=e_ (A4 (?_))))));refine A7 ?_;exact vb (by unfold Dp;rw[Bool.eq_iff_iff];simp;try omega)
theorem Rc(f:Int):AFn prog 164 [.v (.int .i64 f)] (fun r=>r= .v (.bool (Dp f))):=by
 refine enter Tryz.func164 rfl rfl rfl rfl rfl 0 rfl ?_;refine w_ (a_ (h:=e_ (w_ (m_ (h:=Cm (h:=m_ (h:=?_)))))));refine AT true rfl rfl (fun hb1=>?_) (fun hb1=>?_)
 ·have hc1:=bp hb1;refine m_ (h:=Dn (h:=AA (h:=a_ (h:=e_ (A4 (?_))))));refine A7 ?_;exact vb (by unfold Dp;rw[Bool.eq_iff_iff];simp;try omega)
 have hc1:=bp hb1;refine A3 (h:=A3 (h:=AE (h:=a_ (h:=e_ (A4 (?_))))));refine A7 ?_;exact vb (by unfold Dp;rw[Bool.eq_iff_iff];simp;try omega)
theorem Rd(f:Int):AFn prog 220 [.v (.int .i64 f)] (fun r=>r= .v (.bool (DG f))):=by
 refine enter Tryz.func220 rfl rfl rfl rfl rfl 0 rfl ?_;refine w_ (a_ (h:=e_ (q_ (w_ (m_ (h:=e_ (Ab (q_ (w_ (AK (h:=a_ (h:=e_ (?_)))))))))))));refine A9 rfl (fun hb1=>?_) (fun hb1=>?_)
 ·have hc1:=bp hb1;refine AD (B6 (h:=w_ (a_ (h:=e_ (A4 (AN (A8 (?_))))))));refine A7 ?_;exact vb (by unfold DG;rw[Bool.eq_iff_iff];simp;try omega)
 have hc1:=bp hb1;refine w_ (AK (h:=a_ (h:=e_ (?_))));refine A9 rfl (fun hb2=>?_) (fun hb2=>?_)
 ·have hc2:=bp hb2;refine AD (B6 (h:=w_ (a_ (h:=e_ (A4 (AN (A8 (?_))))))));refine A7 ?_;exact vb (by unfold DG;rw[Bool.eq_iff_iff];simp;try omega)
 have hc2:=bp hb2;refine w_ (AK (h:=a_ (h:=e_ (?_))));refine A9 rfl (fun hb3=>?_) (fun hb3=>?_)
 ·have hc3:=bp hb3;refine AD (B6 (h:=w_ (a_ (h:=e_ (A4 (AN (A8 (?_))))))));refine A7 ?_;exact vb (by unfold DG;rw[Bool.eq_iff_iff];simp;try omega)
 have hc3:=bp hb3;refine w_ (AK (h:=a_ (h:=e_ (?_))));refine A9 rfl (fun hb4=>?_) (fun hb4=>?_)
 ·have hc4:=bp hb4;refine AD (B6 (h:=w_ (a_ (h:=e_ (A4 (AN (A8 (?_))))))));refine A7 ?_;exact vb (by unfold DG;rw[Bool.eq_iff_iff];simp;try omega)
 have hc4:=bp hb4;refine w_ (AK (h:=a_ (h:=e_ (?_))));refine A9 rfl (fun hb5=>?_) (fun hb5=>?_)
 ·have hc5:=bp hb5;refine AD (B6 (h:=w_ (a_ (h:=e_ (A4 (AN (A8 (?_))))))));refine A7 ?_;exact vb (by unfold DG;rw[Bool.eq_iff_iff];simp;try omega)
 have hc5:=bp hb5;refine w_ (AK (h:=a_ (h:=e_ (?_))));refine A9 rfl (fun hb6=>?_) (fun hb6=>?_)
 ·have hc6:=bp hb6;refine AD (B6 (h:=w_ (a_ (h:=e_ (A4 (AN (A8 (?_))))))));refine A7 ?_;exact vb (by unfold DG;rw[Bool.eq_iff_iff];simp;try omega)
 have hc6:=bp hb6;refine AR (AK (h:=a_ (h:=e_ (?_))));refine A9 rfl (fun hb7=>?_) (fun hb7=>?_)
 ·have hc7:=bp hb7;refine w_ (a_ (h:=e_ (A4 (AN (A8 (?_))))));refine A7 ?_;exact vb (by unfold DG;rw[Bool.eq_iff_iff];simp;try omega)
 have hc7:=bp hb7;refine Aq (Ai (t_ (w_ (a_ (h:=e_ (A4 (?_)))))));refine A7 ?_;exact vb (by unfold DG;rw[Bool.eq_iff_iff];simp;try omega)
theorem Re(f:Int):AFn prog 216 [.v (.int .i64 f)] (fun r=>r= .v (.bool (DG f))):=by
 refine enter Tryz.func216 rfl rfl rfl rfl rfl 0 rfl ?_;refine w_ (a_ (h:=e_ (q_ (w_ (m_ (h:=e_ (Ab (q_ (w_ (AK (h:=a_ (h:=e_ (?_)))))))))))));refine A9 rfl (fun hb1=>?_) (fun hb1=>?_)
 ·have hc1:=bp hb1;refine AD (B6 (h:=w_ (a_ (h:=e_ (A4 (AN (A8 (?_))))))));refine A7 ?_;exact vb (by unfold DG;rw[Bool.eq_iff_iff];simp;try omega)
 have hc1:=bp hb1;refine w_ (AK (h:=a_ (h:=e_ (?_))));refine A9 rfl (fun hb2=>?_) (fun hb2=>?_)
 ·have hc2:=bp hb2;refine AD (B6 (h:=w_ (a_ (h:=e_ (A4 (AN (A8 (?_))))))));refine A7 ?_;exact vb (by unfold DG;rw[Bool.eq_iff_iff];simp;try omega)
 have hc2:=bp hb2;refine w_ (AK (h:=a_ (h:=e_ (?_))));refine A9 rfl (fun hb3=>?_) (fun hb3=>?_)
 ·have hc3:=bp hb3;refine AD (B6 (h:=w_ (a_ (h:=e_ (A4 (AN (A8 (?_))))))));refine A7 ?_;exact vb (by unfold DG;rw[Bool.eq_iff_iff];simp;try omega)
 have hc3:=bp hb3;refine w_ (AK (h:=a_ (h:=e_ (?_))));refine A9 rfl (fun hb4=>?_) (fun hb4=>?_)
 ·have hc4:=bp hb4;refine AD (B6 (h:=w_ (a_ (h:=e_ (A4 (AN (A8 (?_))))))));refine A7 ?_;exact vb (by unfold DG;rw[Bool.eq_iff_iff];simp;try omega)
 have hc4:=bp hb4;refine w_ (AK (h:=a_ (h:=e_ (?_))));refine A9 rfl (fun hb5=>?_) (fun hb5=>?_)
 ·have hc5:=bp hb5;refine AD (B6 (h:=w_ (a_ (h:=e_ (A4 (AN (A8 (?_))))))));refine A7 ?_;exact vb (by unfold DG;rw[Bool.eq_iff_iff];simp;try omega)
 have hc5:=bp hb5;refine w_ (AK (h:=a_ (h:=e_ (?_))));refine A9 rfl (fun hb6=>?_) (fun hb6=>?_)
 ·have hc6:=bp hb6;refine AD (B6 (h:=w_ (a_ (h:=e_ (A4 (AN (A8 (?_))))))));refine A7 ?_;exact vb (by unfold DG;rw[Bool.eq_iff_iff];simp;try omega)
 have hc6:=bp hb6;refine AR (AK (h:=a_ (h:=e_ (?_))));refine A9 rfl (fun hb7=>?_) (fun hb7=>?_)
 ·have hc7:=bp hb7;refine w_ (a_ (h:=e_ (A4 (AN (A8 (?_))))));refine A7 ?_;exact vb (by unfold DG;rw[Bool.eq_iff_iff];simp;try omega)
 have hc7:=bp hb7;refine Aq (Ai (t_ (w_ (a_ (h:=e_ (A4 (?_)))))));refine A7 ?_;exact vb (by unfold DG;rw[Bool.eq_iff_iff];simp;try omega)
theorem Rf(list f:Int):AFn prog 219 [.v (.int .i64 list), .v (.int .i64 f)] (fun r=>r= .v (.bool (DF list f))):=by
 refine enter Tryz.func219 rfl rfl rfl rfl rfl 0 rfl ?_;refine w_ (a_ (h:=e_ (?_)));refine Dt (⟨look [(0, .v (.int .i64 list)),(1, .v (.int .i64 f)),(5, .v (.bool (CA f)))],⟨[],[]⟩⟩) ?_ ?_
 ·skip
  refine AR (m_ (h:=Cm (h:=m_ (h:=?_))));refine AT true rfl rfl (fun hb1=>?_) (fun hb1=>?_)
  ·have hc1:=bp hb1;refine m_ (h:=Dn (h:=AA (h:=m_ (h:=?_))));refine AT false rfl rfl (fun hb2=>?_) (fun hb2=>?_)
   ·have hc2:=bp hb2;refine A3 (h:=A3 (h:=AA (h:=m_ (h:=A3 (h:=A3 (h:=AA (h:=a_ (h:=AP (?_)))))))));refine AJ ?_
    first|(exfalso;first|contradiction|omega)|exact Ar 0 0 rfl rfl rfl rfl (by repeat (first|exact Sub.nil|refine As rfl rfl ?_|refine Ay ?_|refine Az rfl ?_|refine B0 rfl ?_|(apply Sub.of;(focus exact rfl);(focus exact LeA.of_eq (vb (by unfold CA;rw[Bool.eq_iff_iff];simp;try omega)));(focus exact rfl))))
   have hc2:=bp hb2;refine m_ (h:=AK (h:=AE (h:=m_ (h:=?_))));refine AT false rfl rfl (fun hb3=>?_) (fun hb3=>?_)
   ·have hc3:=bp hb3;refine A3 (h:=A3 (h:=AA (h:=a_ (h:=AP (?_)))));refine AJ ?_
    first|(exfalso;first|contradiction|omega)|exact Ar 0 0 rfl rfl rfl rfl (by repeat (first|exact Sub.nil|refine As rfl rfl ?_|refine Ay ?_|refine Az rfl ?_|refine B0 rfl ?_|(apply Sub.of;(focus exact rfl);(focus exact LeA.of_eq (vb (by unfold CA;rw[Bool.eq_iff_iff];simp;try omega)));(focus exact rfl))))
   have hc3:=bp hb3;refine m_ (h:=AK (h:=AE (h:=a_ (h:=AP (?_)))));refine AJ ?_
   first|(exfalso;first|contradiction|omega)|exact Ar 0 0 rfl rfl rfl rfl (by repeat (first|exact Sub.nil|refine As rfl rfl ?_|refine Ay ?_|refine Az rfl ?_|refine B0 rfl ?_|(apply Sub.of;(focus exact rfl);(focus exact LeA.of_eq (vb (by unfold CA;rw[Bool.eq_iff_iff];simp;try omega)));(focus exact rfl))))
  have hc1:=bp hb1;refine A3 (h:=A3 (h:=AE (h:=m_ (h:=m_ (h:=AK (h:=AE (h:=m_ (h:=?_))))))));refine AT false rfl rfl (fun hb4=>?_) (fun hb4=>?_)
  ·have hc4:=bp hb4;refine A3 (h:=A3 (h:=AA (h:=a_ (h:=AP (?_)))));refine AJ ?_
   first|(exfalso;first|contradiction|omega)|exact Ar 0 0 rfl rfl rfl rfl (by repeat (first|exact Sub.nil|refine As rfl rfl ?_|refine Ay ?_|refine Az rfl ?_|refine B0 rfl ?_|(apply Sub.of;(focus exact rfl);(focus exact LeA.of_eq (vb (by unfold CA;rw[Bool.eq_iff_iff];simp;try omega)));(focus exact rfl))))
  have hc4:=bp hb4;refine m_ (h:=AK (h:=AE (h:=a_ (h:=AP (?_)))));refine AJ ?_
  first|(exfalso;first|contradiction|omega)|exact Ar 0 0 rfl rfl rfl rfl (by repeat (first|exact Sub.nil|refine As rfl rfl ?_|refine Ay ?_|refine Az rfl ?_|refine B0 rfl ?_|(apply Sub.of;(focus exact rfl);(focus exact LeA.of_eq (vb (by unfold CA;rw[Bool.eq_iff_iff];simp;try omega)));(focus exact rfl))))
 skip
 refine q_ (w_ (m_ (h:=e_ (Ab (q_ (w_ (AK (h:=a_ (h:=e_ (?_))))))))));refine A9 rfl (fun hb5=>?_) (fun hb5=>?_)
 ·have hc5:=bp hb5;refine AD (B6 (h:=w_ (m_ (h:=a_ (h:=e_ (A4 (AN (A8 (?_)))))))));refine A7 ?_
  first|(exfalso;first|contradiction|omega)|(exact vb (by unfold DF;unfold CA at *;simp only[*];(try rw[Bool.eq_iff_iff]);simp at *;try omega))
 have hc5:=bp hb5;refine AR (AK (h:=a_ (h:=e_ (?_))));refine A9 rfl (fun hb6=>?_) (fun hb6=>?_)
 ·have hc6:=bp hb6;refine w_ (m_ (h:=a_ (h:=e_ (A4 (AN (A8 (?_)))))));refine A7 ?_
  first|(exfalso;first|contradiction|omega)|(exact vb (by unfold DF;unfold CA at *;simp only[*];(try rw[Bool.eq_iff_iff]);simp at *;try omega))
 have hc6:=bp hb6;refine w_ (AK (h:=a_ (h:=e_ (?_))));refine A9 rfl (fun hb7=>?_) (fun hb7=>?_)
 ·have hc7:=bp hb7;refine w_ (m_ (h:=Cm (h:=m_ (h:=?_))));refine AT true rfl rfl (fun hb8=>?_) (fun hb8=>?_)
  ·have hc8:=bp hb8;refine m_ (h:=Dn (h:=AA (h:=a_ (h:=e_ (A4 (AN (A8 (?_))))))));refine A7 ?_
   first|(exfalso;first|contradiction|omega)|(exact vb (by unfold DF;unfold CA at *;simp only[*];(try rw[Bool.eq_iff_iff]);simp at *;try omega))
  have hc8:=bp hb8;refine A3 (h:=A3 (h:=AE (h:=a_ (h:=e_ (A4 (AN (A8 (?_))))))));refine A7 ?_
  first|(exfalso;first|contradiction|omega)|(exact vb (by unfold DF;unfold CA at *;simp only[*];(try rw[Bool.eq_iff_iff]);simp at *;try omega))
 have hc7:=bp hb7;refine w_ (AK (h:=a_ (h:=e_ (?_))));refine A9 rfl (fun hb9=>?_) (fun hb9=>?_)
 ·have hc9:=bp hb9;refine w_ (m_ (h:=Cm (h:=m_ (h:=?_))));refine AT true rfl rfl (fun hb10=>?_) (fun hb10=>?_)
  ·have hc10:=bp hb10;refine m_ (h:=Dn (h:=AA (h:=a_ (h:=e_ (A4 (AN (A8 (?_))))))));refine A7 ?_
   first|(exfalso;first|contradiction|omega)|(exact vb (by unfold DF;unfold CA at *;simp only[*];(try rw[Bool.eq_iff_iff]);simp at *;try omega))
  have hc10:=bp hb10;refine A3 (h:=A3 (h:=AE (h:=a_ (h:=e_ (A4 (AN (A8 (?_))))))));refine A7 ?_
  first|(exfalso;first|contradiction|omega)|(exact vb (by unfold DF;unfold CA at *;simp only[*];(try rw[Bool.eq_iff_iff]);simp at *;try omega))
 have hc9:=bp hb9;refine w_ (AK (h:=a_ (h:=e_ (?_))));refine A9 rfl (fun hb11=>?_) (fun hb11=>?_)
 ·have hc11:=bp hb11;refine w_ (m_ (h:=m_ (h:=?_)));refine AT false rfl rfl (fun hb12=>?_) (fun hb12=>?_)
  ·have hc12:=bp hb12;refine A3 (h:=A3 (h:=AA (h:=a_ (h:=e_ (A4 (AN (A8 (?_))))))));refine A7 ?_
   first|(exfalso;first|contradiction|omega)|(exact vb (by unfold DF;unfold CA at *;simp only[*];(try rw[Bool.eq_iff_iff]);simp at *;try omega))
  have hc12:=bp hb12;refine m_ (h:=AK (h:=AE (h:=a_ (h:=e_ (A4 (AN (A8 (?_))))))));refine A7 ?_
  first|(exfalso;first|contradiction|omega)|(exact vb (by unfold DF;unfold CA at *;simp only[*];(try rw[Bool.eq_iff_iff]);simp at *;try omega))
 have hc11:=bp hb11;refine Aq (Ai (t_ (w_ (a_ (h:=e_ (A4 (?_)))))));refine A7 ?_
 first|(exfalso;first|contradiction|omega)|(exact vb (by unfold DF;unfold CA at *;simp only[*];(try rw[Bool.eq_iff_iff]);simp at *;try omega))
theorem Rg(list f:Int):AFn prog 215 [.v (.int .i64 list), .v (.int .i64 f)] (fun r=>r= .v (.bool (DF list f))):=by
 refine enter Tryz.func215 rfl rfl rfl rfl rfl 0 rfl ?_;refine w_ (a_ (h:=e_ (q_ (w_ (m_ (h:=B4 (h:=m_ (h:=?_))))))));refine AT false rfl rfl (fun hb1=>?_) (fun hb1=>?_)
 ·have hc1:=bp hb1;refine A3 (h:=A3 (h:=AA (h:=e_ (B6 (h:=w_ (a_ (h:=e_ (A4 (A8 (?_))))))))));refine A7 ?_
  first|(exfalso;first|contradiction|omega)|(exact vb (by unfold DF CA;(repeat' split)<;>(try rw[Bool.eq_iff_iff])<;>(try simp)<;>(first|omega|(unfold CA at *;simp only[decide_eq_true_eq,decide_eq_false_iff_not]at *;omega)|skip)))
 have hc1:=bp hb1;refine m_ (h:=Ba (h:=AE (h:=e_ (?_))));refine A9 rfl (fun hb2=>?_) (fun hb2=>?_)
 ·have hc2:=bp hb2;refine w_ (a_ (h:=e_ (A4 (A8 (?_)))));refine A7 ?_
  first|(exfalso;first|contradiction|omega)|(exact vb (by unfold DF CA;(repeat' split)<;>(try rw[Bool.eq_iff_iff])<;>(try simp)<;>(first|omega|(unfold CA at *;simp only[decide_eq_true_eq,decide_eq_false_iff_not]at *;omega)|skip)))
 have hc2:=bp hb2;refine AD (?_);refine Dt (⟨look [(0, .v (.int .i64 list)),(1, .v (.int .i64 f)),(5, .v (.bool (CA f)))],⟨[],[]⟩⟩) ?_ ?_
 ·skip
  refine AR (m_ (h:=Dn (h:=m_ (h:=?_))));refine AT false rfl rfl (fun hb3=>?_) (fun hb3=>?_)
  ·have hc3:=bp hb3;refine A3 (h:=A3 (h:=AA (h:=m_ (h:=A3 (h:=A3 (h:=AA (h:=a_ (h:=AP (?_)))))))));refine AJ ?_
   first|(exfalso;first|contradiction|omega)|exact Ar 0 0 rfl rfl rfl rfl (by repeat (first|exact Sub.nil|refine As rfl rfl ?_|refine Ay ?_|refine Az rfl ?_|refine B0 rfl ?_|(apply Sub.of;(focus exact rfl);(focus exact LeA.of_eq (vb (by unfold CA;rw[Bool.eq_iff_iff];simp;try omega)));(focus exact rfl))))
  have hc3:=bp hb3;refine m_ (h:=AK (h:=AE (h:=m_ (h:=?_))));refine AT false rfl rfl (fun hb4=>?_) (fun hb4=>?_)
  ·have hc4:=bp hb4;refine A3 (h:=A3 (h:=AA (h:=a_ (h:=AP (?_)))));refine AJ ?_
   first|(exfalso;first|contradiction|omega)|exact Ar 0 0 rfl rfl rfl rfl (by repeat (first|exact Sub.nil|refine As rfl rfl ?_|refine Ay ?_|refine Az rfl ?_|refine B0 rfl ?_|(apply Sub.of;(focus exact rfl);(focus exact LeA.of_eq (vb (by unfold CA;rw[Bool.eq_iff_iff];simp;try omega)));(focus exact rfl))))
  have hc4:=bp hb4;refine m_ (h:=AK (h:=AE (h:=a_ (h:=AP (?_)))));refine AJ ?_
  first|(exfalso;first|contradiction|omega)|exact Ar 0 0 rfl rfl rfl rfl (by repeat (first|exact Sub.nil|refine As rfl rfl ?_|refine Ay ?_|refine Az rfl ?_|refine B0 rfl ?_|(apply Sub.of;(focus exact rfl);(focus exact LeA.of_eq (vb (by unfold CA;rw[Bool.eq_iff_iff];simp;try omega)));(focus exact rfl))))
 skip
 refine q_ (w_ (m_ (h:=e_ (Ab (q_ (w_ (AK (h:=a_ (h:=e_ (?_))))))))));refine A9 rfl (fun hb5=>?_) (fun hb5=>?_)
 ·have hc5:=bp hb5;refine AD (B6 (h:=w_ (m_ (h:=a_ (h:=e_ (A4 (AN (A8 (?_)))))))));refine A7 ?_
  first|(exfalso;first|contradiction|omega)|(exact vb (by unfold DF CA;(repeat' split)<;>(try rw[Bool.eq_iff_iff])<;>(try simp)<;>(first|omega|(unfold CA at *;simp only[decide_eq_true_eq,decide_eq_false_iff_not]at *;omega)|skip)))
 have hc5:=bp hb5;refine AR (AK (h:=a_ (h:=e_ (?_))));refine A9 rfl (fun hb6=>?_) (fun hb6=>?_)
 ·have hc6:=bp hb6;refine w_ (m_ (h:=a_ (h:=e_ (A4 (AN (A8 (?_)))))));refine A7 ?_
  first|(exfalso;first|contradiction|omega)|(exact vb (by unfold DF CA;(repeat' split)<;>(try rw[Bool.eq_iff_iff])<;>(try simp)<;>(first|omega|(unfold CA at *;simp only[decide_eq_true_eq,decide_eq_false_iff_not]at *;omega)|skip)))
 have hc6:=bp hb6;refine w_ (AK (h:=a_ (h:=e_ (?_))));refine A9 rfl (fun hb7=>?_) (fun hb7=>?_)
 ·have hc7:=bp hb7;refine w_ (m_ (h:=Dn (h:=a_ (h:=e_ (A4 (AN (A8 (?_))))))));refine A7 ?_
  first|(exfalso;first|contradiction|omega)|(exact vb (by unfold DF CA;(repeat' split)<;>(try rw[Bool.eq_iff_iff])<;>(try simp)<;>(first|omega|(unfold CA at *;simp only[decide_eq_true_eq,decide_eq_false_iff_not]at *;omega)|skip)))
 have hc7:=bp hb7;refine w_ (AK (h:=a_ (h:=e_ (?_))));refine A9 rfl (fun hb8=>?_) (fun hb8=>?_)
 ·have hc8:=bp hb8;refine w_ (m_ (h:=B4 (h:=a_ (h:=e_ (A4 (AN (A8 (?_))))))));refine A7 ?_
  first|(exfalso;first|contradiction|omega)|(exact vb (by unfold DF CA;(repeat' split)<;>(try rw[Bool.eq_iff_iff])<;>(try simp)<;>(first|omega|(unfold CA at *;simp only[decide_eq_true_eq,decide_eq_false_iff_not]at *;omega)|skip)))
 have hc8:=bp hb8;refine w_ (AK (h:=a_ (h:=e_ (?_))));refine A9 rfl (fun hb9=>?_) (fun hb9=>?_)
 ·have hc9:=bp hb9;refine w_ (m_ (h:=m_ (h:=?_)));refine AT false rfl rfl (fun hb10=>?_) (fun hb10=>?_)
  ·have hc10:=bp hb10;refine A3 (h:=A3 (h:=AA (h:=a_ (h:=e_ (A4 (AN (A8 (?_))))))));refine A7 ?_
   first|(exfalso;first|contradiction|omega)|(exact vb (by unfold DF CA;(repeat' split)<;>(try rw[Bool.eq_iff_iff])<;>(try simp)<;>(first|omega|(unfold CA at *;simp only[decide_eq_true_eq,decide_eq_false_iff_not]at *;omega)|skip)))
  have hc10:=bp hb10;refine m_ (h:=AK (h:=AE (h:=a_ (h:=e_ (A4 (AN (A8 (?_))))))));refine A7 ?_
  first|(exfalso;first|contradiction|omega)|(exact vb (by unfold DF CA;(repeat' split)<;>(try rw[Bool.eq_iff_iff])<;>(try simp)<;>(first|omega|(unfold CA at *;simp only[decide_eq_true_eq,decide_eq_false_iff_not]at *;omega)|skip)))
 have hc9:=bp hb9;refine Aq (Ai (t_ (w_ (a_ (h:=e_ (A4 (?_)))))));refine A7 ?_
 first|(exfalso;first|contradiction|omega)|(exact vb (by unfold DF CA;(repeat' split)<;>(try rw[Bool.eq_iff_iff])<;>(try simp)<;>(first|omega|(unfold CA at *;simp only[decide_eq_true_eq,decide_eq_false_iff_not]at *;omega)|skip)))
end
end Go.Proofs.YtbgnigjfkbmceaaGreatDoor
