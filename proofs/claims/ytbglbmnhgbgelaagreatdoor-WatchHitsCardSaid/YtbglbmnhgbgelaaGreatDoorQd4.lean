/-
  Part 4 of the proof of WatchHitsP: what the statement's proof uses of the texts in wip/tpl.
-/
import Derived.WalkKit
import Derived.Test.YtbglbmnhgbgelaaGreatDoorQd3
set_option maxRecDepth 10000
set_option maxHeartbeats 4000000
set_option linter.unusedVariables false
set_option linter.unusedSimpArgs false
namespace Go.Proofs.YtbglbmnhgbgelaaGreatDoor
open Go.RowKit
section
variable {P:Program}{N:Dim}{Q:Exit→AS→Prop}{s:AS}
def AC(P:Program)(N:Dim)(y:Code)(Q:Exit→AS→Prop)(s:AS):Prop:=Bt P N y Q s
theorem q_{x y:Code}(h:Bt P N x (GH (AC P N y Q) Q) s):Bt P N (.seq x y) Q s:=by
 intro E a w hr
 refine wp_seq (wp_mono (h E a w hr) ?_)
 rintro e a' w' ⟨s',hq,hr'⟩
 cases e with
 |normal=>exact hq E a' w' hr'
 |exit id=>exact⟨s',hq,hr'⟩
 |goto l=>exact⟨s',hq,hr'⟩
 |ret=>exact⟨s',hq,hr'⟩
 |panic c=>exact⟨s',hq,hr'⟩
 |outgrown=>exact⟨s',hq,hr'⟩
theorem w_{id:Nat}{l:List Oper}{y:Code}(h:AL P N l.toArray (GH (AC P N y Q) Q) l s):Bt P N (.seq (.region id l.toArray false) y) Q s:=q_ (AP h)
theorem t_{y:Code}(h:Bt P N y Q s):GH (AC P N y Q) Q .normal s:=h
theorem e_{ops:Array Oper}{y:Code}(h:Bt P N y Q s):AL P N ops (GH (AC P N y Q) Q) [] s:=AO h
theorem AJ{y:Code}(h:Bt P N y Q s):Bt P N .skip (GH (AC P N y Q) Q) s:=BA h
theorem Bm{c:Operand}{x y:Code}{t:Bool}(hc:CA s.sl c=some (.v (.bool t)):=by rfl)(ht:t=true:=by first|rfl|assumption|simp[*])(h:Bt P N x Q s):Bt P N (.cond c x y) Q s:=XX hc ht h
theorem GL{c:Operand}{x y:Code}{t:Bool}(hc:CA s.sl c=some (.v (.bool t)):=by rfl)(ht:t=false:=by first|rfl|assumption|simp[*])(h:Bt P N y Q s):Bt P N (.cond c x y) Q s:=XY hc ht h
end
section
variable {P:Program}{N:Dim}{Q:Exit→AS→Prop}{ops:Array Oper}{rest:List Oper}{l:List (Nat×AV)}{hh:AH}{op:Op}{ty:TypeId}{pos:String}{af:Array Edge}
theorem A3{d j:Nat}{want t:Bool}(hd:Nat.blt d N.n=true:=by rfl)(hy:yv ops (look l) j=some (some t):=by rfl)(ht:(t==want)=false:=by first|rfl|exact SP ‹_›|exact SQ ‹_›|simp[*])(h:AL P N ops Q rest ⟨look ((d, .v undef)::l),hh⟩):AL P N ops Q (⟨some d,op,ty,pos,af,some (j,want)⟩::rest) ⟨look l,hh⟩:=XZ hd hy ht h
theorem Db{d j:Nat}{want:Bool}(hd:Nat.blt d N.n=true:=by rfl)(hy:yv ops (look l) j=some none:=by rfl)(h:AL P N ops Q rest ⟨look ((d, .v undef)::l),hh⟩):AL P N ops Q (⟨some d,op,ty,pos,af,some (j,want)⟩::rest) ⟨look l,hh⟩:=Xa hd hy h
end
def KB:List (Nat×List AV)→AH→Prop
 |[],_=>True
 |(i,r)::l,h=>h.bx[i]?=some r∧KB l h
def PW:List (Nat×List AV)→Nat→Option (List AV)
 |[],_=>none
 |(i,r)::l,j=>match Nat.beq i j with
   |true=>some r
   |false=>PW l j
theorem kb:∀{l:List (Nat×List AV)} {h:AH} {i:Nat} {row:List AV},KB l h→PW l i=some row→h.bx[i]?=some row
 |[],_,_,_,_,e=>by cases e
 |(j,r)::l,h,i,row,k,e=>by
   unfold PW at e
   split at e
   ·rename_i hb
    have:=Nat.eq_of_beq_eq_true hb
    subst this
    injection e with e
    subst e
    exact k.1
   exact kb k.2 e
theorem M2(h:AH):KB [] h:=trivial
theorem M3{l:List (Nat×List AV)}{h:AH}{i:Nat}{r:List AV}(h1:h.bx[i]?=some r)(h2:KB l h):KB ((i,r)::l) h:=⟨h1,h2⟩
def Do(_i:Nat)(B A:Prop):Prop:=B→A
section
variable {P:Program}{N:Dim}{l:List Oper}{Q:Exit→AS→Prop}{S:AH→Prop}{tl fuel:Nat}{listed:Array Bool}{m:List (Nat×AV)}{hh:AH}{op:Op}{ty:TypeId}{pos:String}{af:Array Edge}{gd:Option (Nat×Bool)}
theorem Cy{i d:Nat}{x:AV}(hi:l[i]?=some ⟨some d,op,ty,pos,af,gd⟩)(hst:AStep P ⟨some d,op,ty,pos,af,gd⟩ (CA (look m)) hh (fun x' h'=>x'=x∧h'=hh))(hd:Nat.blt d N.n=true:=by rfl)(htl:(H6 l.toArray tl listed&& !Nat.ble tl i&&Region.free .any l.toArray listed i&&(Region.ready .any l.toArray listed).contains i)=true:=by kernel_rfl)
    (hw:CU l.toArray (look m) ⟨some d,op,ty,pos,af,gd⟩=some true:=by first|rfl|exact Ao rfl rfl (Bu ‹_›)|exact Ao rfl rfl (Bv ‹_›)|exact Ao rfl rfl (by simp[*])):
    Do i (AAny P N l.toArray Q (fun h'=>h'=hh) tl fuel (listed.setIfInBounds i true) ⟨look ((d,x)::m),hh⟩) (AAny P N l.toArray Q (fun h'=>h'=hh) tl (fuel+1) listed ⟨look m,hh⟩):=fun H=>Rw hi hd htl hw hst H
theorem Cz{K:List (Nat×List AV)}{i d:Nat}{x:AV}(hi:l[i]?=some ⟨some d,op,ty,pos,af,gd⟩)(hst:∀h,KB K h→AStep P ⟨some d,op,ty,pos,af,gd⟩ (CA (look m)) h (fun x' h'=>x'=x∧h'=h))(hd:Nat.blt d N.n=true:=by rfl)(htl:(H6 l.toArray tl listed&& !Nat.ble tl i&&Region.free .any l.toArray listed i&&(Region.ready .any l.toArray listed).contains i)=true:=by kernel_rfl)
    (hw:CU l.toArray (look m) ⟨some d,op,ty,pos,af,gd⟩=some true:=by first|rfl|exact Ao rfl rfl (Bu ‹_›)|exact Ao rfl rfl (Bv ‹_›)|exact Ao rfl rfl (by simp[*])) (hS:KB K hh:=by repeat (first|exact M2 _|refine M3 rfl ?_)):
    Do i (AAny P N l.toArray Q (KB K) tl fuel (listed.setIfInBounds i true) ⟨look ((d,x)::m),hh⟩) (AAny P N l.toArray Q (KB K) tl (fuel+1) listed ⟨look m,hh⟩):=fun H=>CE hi hd htl hw hst hS H
theorem Bn{K:List (Nat×List AV)}(i:Nat){d:Nat}{x:AV}(hi:l[i]?=some ⟨some d,op,ty,pos,af,gd⟩)(hst:∀h,KB K h→AStep P ⟨some d,op,ty,pos,af,gd⟩ (CA (look m)) h (fun x' h'=>x'=x∧h'=h))(H:AAny P N l.toArray Q (KB K) tl fuel (listed.setIfInBounds i true) ⟨look ((d,x)::m),hh⟩)(hd:Nat.blt d N.n=true:=by rfl)(htl:(H6 l.toArray tl listed&& !Nat.ble tl i&&Region.free .any l.toArray listed i&&(Region.ready .any l.toArray listed).contains i)=true:=by kernel_rfl)
    (hw:CU l.toArray (look m) ⟨some d,op,ty,pos,af,gd⟩=some true:=by first|rfl|exact Ao rfl rfl (Bu ‹_›)|exact Ao rfl rfl (Bv ‹_›)|exact Ao rfl rfl (by simp[*])) (hS:KB K hh:=by repeat (first|exact M2 _|refine M3 rfl ?_)):AAny P N l.toArray Q (KB K) tl (fuel+1) listed ⟨look m,hh⟩:=CE hi hd htl hw hst hS H
theorem BE(i:Nat){d:Nat}(hi:l[i]?=some ⟨some d,op,ty,pos,af,gd⟩:=by rfl)(hd:Nat.blt d N.n=true:=by rfl)(htl:(H6 l.toArray tl listed&& !Nat.ble tl i&&Region.free .any l.toArray listed i&&(Region.ready .any l.toArray listed).contains i)=true:=by kernel_rfl)
    (hw:CU l.toArray (look m) ⟨some d,op,ty,pos,af,gd⟩=some false:=by first|rfl|exact Oy rfl rfl (SP ‹_›)|exact Oy rfl rfl (SQ ‹_›)|exact XA rfl rfl|exact Oy rfl rfl (by simp[*]))
    (hS:S hh:=by first|rfl|(repeat (first|exact M2 _|refine M3 rfl ?_))) (h:AAny P N l.toArray Q S tl fuel (listed.setIfInBounds i true) ⟨look ((d, .v undef)::m),hh⟩):AAny P N l.toArray Q S tl (fuel+1) listed ⟨look m,hh⟩:=X5 hi hd htl hw hS h
theorem c_(i:Nat){d:Nat}(hi:l[i]?=some ⟨some d,op,ty,pos,af,gd⟩)(H:AStep P ⟨some d,op,ty,pos,af,gd⟩ (CA (look m)) hh (fun x h'=>(Nat.ble tl i=true∨S h')∧AAny P N l.toArray Q S tl fuel (listed.setIfInBounds i true) ⟨look ((d,x)::m),h'⟩))(hd:Nat.blt d N.n=true:=by rfl)(hr:Region.ready .any l.toArray listed=[i]:=by kernel_rfl)
    (hw:CU l.toArray (look m) ⟨some d,op,ty,pos,af,gd⟩=some true:=by first|rfl|exact Ao rfl rfl (Bu ‹_›)|exact Ao rfl rfl (Bv ‹_›)|exact Ao rfl rfl (by simp[*])):AAny P N l.toArray Q S tl (fuel+1) listed ⟨look m,hh⟩:=X6 hi hd hr hw H
theorem Az(i:Nat)(hi:l[i]?=some ⟨none,op,ty,pos,af,gd⟩)(H:AStep P ⟨none,op,ty,pos,af,gd⟩ (CA (look m)) hh (fun _ h'=>(Nat.ble tl i=true∨S h')∧AAny P N l.toArray Q S tl fuel (listed.setIfInBounds i true) ⟨look m,h'⟩))(hr:Region.ready .any l.toArray listed=[i]:=by kernel_rfl)
    (hw:CU l.toArray (look m) ⟨none,op,ty,pos,af,gd⟩=some true:=by first|rfl|exact Ao rfl rfl (Bu ‹_›)|exact Ao rfl rfl (Bv ‹_›)|exact Ao rfl rfl (by simp[*])):AAny P N l.toArray Q S tl (fuel+1) listed ⟨look m,hh⟩:=X7 hi hr hw H
theorem E0(i j:Nat){di dj:Nat}{op':Op}{ty':TypeId}{pos':String}{af':Array Edge}{gd':Option (Nat×Bool)}(hi:l[i]?=some ⟨some di,op,ty,pos,af,gd⟩)(hj:l[j]?=some ⟨some dj,op',ty',pos',af',gd'⟩)
    (H1:AStep P ⟨some di,op,ty,pos,af,gd⟩ (CA (look m)) hh (fun x h'=>(Nat.ble tl i=true∨S h')∧AAny P N l.toArray Q S tl fuel (listed.setIfInBounds i true) ⟨look ((di,x)::m),h'⟩))
    (H2:AStep P ⟨some dj,op',ty',pos',af',gd'⟩ (CA (look m)) hh (fun x h'=>(Nat.ble tl j=true∨S h')∧AAny P N l.toArray Q S tl fuel (listed.setIfInBounds j true) ⟨look ((dj,x)::m),h'⟩))
    (hdi:Nat.blt di N.n=true:=by rfl) (hdj:Nat.blt dj N.n=true:=by rfl) (hr:Region.ready .any l.toArray listed=[i,j]:=by kernel_rfl)
    (hwi:CU l.toArray (look m) ⟨some di,op,ty,pos,af,gd⟩=some true:=by first|rfl|exact Ao rfl rfl (Bu ‹_›)|exact Ao rfl rfl (Bv ‹_›)|exact Ao rfl rfl (by simp[*]))
    (hwj:CU l.toArray (look m) ⟨some dj,op',ty',pos',af',gd'⟩=some true:=by first|rfl|exact Ao rfl rfl (Bu ‹_›)|exact Ao rfl rfl (Bv ‹_›)|exact Ao rfl rfl (by simp[*])):AAny P N l.toArray Q S tl (fuel+1) listed ⟨look m,hh⟩:=Xn hr hi hdi hwi hj hdj hwj H1 H2
theorem o_{i:Nat}{A:Prop}{h':AH}(hS:Nat.ble tl i=true∨S h':=by first|exact .inl rfl|exact .inr rfl|exact .inr (by repeat (first|exact M2 _|refine M3 rfl ?_)))(h:A):(Nat.ble tl i=true∨S h')∧A:=⟨hS,h⟩
theorem z_(hr:Region.ready .any l.toArray listed=[]:=by kernel_rfl)(h:Q .normal ⟨look m,hh⟩):AAny P N l.toArray Q S tl fuel listed ⟨look m,hh⟩:=X9 hr h fuel
theorem DU(tl:Nat){id:Nat}(hm:P.follows .mixedOrders=true:=by kernel_rfl)(h:AAny P N l.toArray Q (fun h'=>h'=hh) tl l.length (Array.replicate l.length false) ⟨look m,hh⟩):Bt P N (.region id l.toArray true) Q ⟨look m,hh⟩:=X8 tl hm h
theorem BF(K:List (Nat×List AV))(tl:Nat){id:Nat}(hm:P.follows .mixedOrders=true:=by kernel_rfl)(h:AAny P N l.toArray Q (KB K) tl l.length (Array.replicate l.length false) ⟨look m,hh⟩):Bt P N (.region id l.toArray true) Q ⟨look m,hh⟩:=Kf _ tl hm h
end
section
variable {P:Program}{rs:List ResultVar}{n:Nat}{R:AV→List (List AV)→List Cb→Prop}{s:AS}{xs:List AV}{r:AV}
theorem Ai(g:Option Nat){tk':List Cb}(h1:ResA P s rs xs:=by repeat (first|exact ResA.nil|(apply ResA.tmp;(focus exact rfl))|(apply ResA.cellN;(focus exact inferInstance);(focus exact rfl);(focus exact rfl);(focus exact rfl))|(apply ResA.cell1;(focus exact inferInstance);(focus exact rfl);(focus exact rfl);(focus exact rfl))))(h2:JW s.h.tk g=some tk':=by rfl)(h3:Ac n 1 (DJ g (EQ xs))=true:=by rfl)(h4:Ag n 0 (s.h.bx.take n)=true:=by rfl)(h5:LeA (DJ g (EQ xs)) r)(h6:R r (s.h.bx.take n) tk'):JX P rs n R .ret s:=PJ g h1 h2 h3 h4 h5 h6
theorem Nq(g:Option Nat){tk':List Cb}(h1:ResA P s rs xs:=by repeat (first|exact ResA.nil|(apply ResA.tmp;(focus exact rfl))|(apply ResA.cellN;(focus exact inferInstance);(focus exact rfl);(focus exact rfl);(focus exact rfl))|(apply ResA.cell1;(focus exact inferInstance);(focus exact rfl);(focus exact rfl);(focus exact rfl))))(h2:JW s.h.tk g=some tk':=by rfl)(h3:Ac n 1 (DJ g (EQ xs))=true:=by rfl)(h4:Ag n 0 (s.h.bx.take n)=true:=by rfl)(h5:LeA (DJ g (EQ xs)) r)(h6:R r (s.h.bx.take n) tk'):JX P rs n R .normal s:=XQ g h1 h2 h3 h4 h5 h6
end
theorem m_{A B:Prop}(k:B→A:=by intro b;first|exact A6 rfl (F6 rfl b)|exact B4 (F6 rfl b))(h:B):A:=k h
theorem AN(i:Nat){A B:Prop}(k:Do i B A:=by first|exact Cy rfl (F6 rfl ⟨rfl,rfl⟩)|exact Cz rfl (fun _ _=>F6 rfl ⟨rfl,rfl⟩))(h:B):A:=k h
theorem a_{A B:Prop}(k:B→A:=by intro b;first|exact A6 rfl (FJ rfl b)|exact B4 (FJ rfl b))(h:B):A:=k h
theorem BB(i:Nat){A B:Prop}(k:Do i B A:=by first|exact Cy rfl (FJ rfl ⟨rfl,rfl⟩)|exact Cz rfl (fun _ _=>FJ rfl ⟨rfl,rfl⟩))(h:B):A:=k h
theorem f_{A B:Prop}(k:B→A:=by intro b;first|exact A6 rfl (El rfl b)|exact A6 rfl (NF rfl b)|exact B4 (El rfl b)|exact B4 (NF rfl b))(h:B):A:=k h
theorem AE(i:Nat){A B:Prop}(k:Do i B A:=by first|exact Cy rfl (El rfl ⟨rfl,rfl⟩)|exact Cy rfl (NF rfl ⟨rfl,rfl⟩)|exact Cz rfl (fun _ _=>El rfl ⟨rfl,rfl⟩)|exact Cz rfl (fun _ _=>NF rfl ⟨rfl,rfl⟩))(h:B):A:=k h
theorem l_{A B:Prop}(k:B→A:=by intro b;first|exact A6 rfl (D5 rfl rfl rfl b)|exact A6 rfl (Fq rfl rfl rfl b)|exact A6 rfl (Jt rfl rfl b)|exact A6 rfl (Li rfl rfl b)|exact A6 rfl (FR rfl rfl rfl b)|exact A6 rfl (Lh rfl rfl b)|exact B4 (D5 rfl rfl rfl b)|exact B4 (Fq rfl rfl rfl b)|exact B4 (Jt rfl rfl b)|exact B4 (Li rfl rfl b)|exact B4 (FR rfl rfl rfl b)|exact B4 (Lh rfl rfl b))(h:B):A:=k h
theorem AD(i:Nat){A B:Prop}(k:Do i B A:=by first|exact Cy rfl (D5 rfl rfl rfl ⟨rfl,rfl⟩)|exact Cy rfl (Fq rfl rfl rfl ⟨rfl,rfl⟩)|exact Cy rfl (Jt rfl rfl ⟨rfl,rfl⟩)|exact Cy rfl (Li rfl rfl ⟨rfl,rfl⟩)|exact Cy rfl (FR rfl rfl rfl ⟨rfl,rfl⟩)|exact Cy rfl (Lh rfl rfl ⟨rfl,rfl⟩)|exact Cz rfl (fun _ hS=>D5 rfl (kb hS rfl) rfl ⟨rfl,rfl⟩)|exact Cz rfl (fun _ hS=>Fq rfl (kb hS rfl) rfl ⟨rfl,rfl⟩)|exact Cz rfl (fun _ _=>Jt rfl rfl ⟨rfl,rfl⟩)|exact Cz rfl (fun _ _=>Li rfl rfl ⟨rfl,rfl⟩)|exact Cz rfl (fun _ hS=>FR rfl (kb hS rfl) rfl ⟨rfl,rfl⟩)|exact Cz rfl (fun _ _=>Lh rfl rfl ⟨rfl,rfl⟩))(h:B):A:=k h
theorem s_{A B:Prop}(k:B→A:=by intro b;exact K0 (Aw rfl rfl rfl rfl rfl rfl (by repeat constructor) (by repeat constructor) b))(h:B):A:=k h
theorem b_{A B:Prop}(k:B→A:=by intro b;first|exact A6 rfl (Lt rfl rfl (by repeat constructor) b)|exact A6 rfl (SR rfl rfl (by repeat constructor) b)|exact B4 (Lt rfl rfl (by repeat constructor) b)|exact B4 (SR rfl rfl (by repeat constructor) b))(h:B):A:=k h
theorem AW{A B:Prop}(k:B→A:=by intro b;first|exact A6 rfl (Bw (by repeat constructor) b)|exact B4 (Bw (by repeat constructor) b))(h:B):A:=k h
theorem n_{A B:Prop}(k:B→A:=by intro b;first|exact A6 rfl (NU rfl b)|exact A6 rfl (NT (by kernel_rfl) rfl b)|exact A6 rfl (NV rfl b)|exact B4 (NU rfl b)|exact B4 (NT (by kernel_rfl) rfl b)|exact B4 (NV rfl b))(h:B):A:=k h
theorem K7(i:Nat){A B:Prop}(k:Do i B A:=by first|exact Cy rfl (NU rfl ⟨rfl,rfl⟩)|exact Cy rfl (NT (by kernel_rfl) rfl ⟨rfl,rfl⟩)|exact Cy rfl (NV rfl ⟨rfl,rfl⟩)|exact Cz rfl (fun _ _=>NU rfl ⟨rfl,rfl⟩)|exact Cz rfl (fun _ _=>NT (by kernel_rfl) rfl ⟨rfl,rfl⟩)|exact Cz rfl (fun _ _=>NV rfl ⟨rfl,rfl⟩))(h:B):A:=k h
theorem Gj{A B:Prop}(k:B→A:=by intro b;first|exact A6 rfl (Dz rfl rfl rfl (by simp<;>omega) (by repeat constructor) b)|exact A6 rfl (Hw rfl rfl (by simp<;>omega) (by repeat constructor) b)|exact B4 (Dz rfl rfl rfl (by simp<;>omega) (by repeat constructor) b)|exact B4 (Hw rfl rfl (by simp<;>omega) (by repeat constructor) b))(h:B):A:=k h
theorem x_{A B:Prop}(k:B→A:=by intro b;first|exact A6 rfl (ND rfl rfl b)|exact B4 (ND rfl rfl b))(h:B):A:=k h
theorem B6(i:Nat){A B:Prop}(k:Do i B A:=by first|exact Cy rfl (ND rfl rfl ⟨rfl,rfl⟩)|exact Cz rfl (fun _ _=>ND rfl rfl ⟨rfl,rfl⟩))(h:B):A:=k h
theorem k_{A B:Prop}(k:B→A:=by intro b;first|exact A6 rfl (H9 rfl b)|exact A6 rfl (NE rfl b)|exact B4 (H9 rfl b)|exact B4 (NE rfl b))(h:B):A:=k h
theorem B7(i:Nat){A B:Prop}(k:Do i B A:=by first|exact Cy rfl (H9 rfl ⟨rfl,rfl⟩)|exact Cy rfl (NE rfl ⟨rfl,rfl⟩)|exact Cz rfl (fun _ _=>H9 rfl ⟨rfl,rfl⟩)|exact Cz rfl (fun _ _=>NE rfl ⟨rfl,rfl⟩))(h:B):A:=k h
theorem AT{A B:Prop}(k:B→A:=by intro b;first|exact A6 rfl (Ln (by repeat (first|exact FillA.nil _|(apply FillA.cons;(focus exact rfl);(focus exact rfl);(focus exact rfl);(focus exact rfl);(focus exact rfl);(focus (repeat constructor))))) b)|exact B4 (Ln (by repeat (first|exact FillA.nil _|(apply FillA.cons;(focus exact rfl);(focus exact rfl);(focus exact rfl);(focus exact rfl);(focus exact rfl);(focus (repeat constructor))))) b))(h:B):A:=k h
theorem Gk(i:Nat){A B:Prop}(k:Do i B A:=by first|exact Cy rfl (Ln (by repeat (first|exact FillA.nil _|(apply FillA.cons;(focus exact rfl);(focus exact rfl);(focus exact rfl);(focus exact rfl);(focus exact rfl);(focus (repeat constructor))))) ⟨rfl,rfl⟩)|exact Cz rfl (fun _ _=>Ln (by repeat (first|exact FillA.nil _|(apply FillA.cons;(focus exact rfl);(focus exact rfl);(focus exact rfl);(focus exact rfl);(focus exact rfl);(focus (repeat constructor))))) ⟨rfl,rfl⟩))(h:B):A:=k h
theorem Bk{A B:Prop}(k:B→A:=by intro b;first|exact A6 rfl (Lo (by repeat (first|exact DenseA.nil _|(apply DenseA.cons;(focus exact rfl);(focus exact rfl);(focus exact rfl);(focus exact rfl))|(apply DenseA.consE;(focus exact rfl);(focus exact rfl);(focus exact rfl)))) rfl rfl rfl rfl b)|exact B4 (Lo (by repeat (first|exact DenseA.nil _|(apply DenseA.cons;(focus exact rfl);(focus exact rfl);(focus exact rfl);(focus exact rfl))|(apply DenseA.consE;(focus exact rfl);(focus exact rfl);(focus exact rfl)))) rfl rfl rfl rfl b))(h:B):A:=k h
theorem Hz(i:Nat){A B:Prop}(k:Do i B A:=by first|exact Cy rfl (Lo (by repeat (first|exact DenseA.nil _|(apply DenseA.cons;(focus exact rfl);(focus exact rfl);(focus exact rfl);(focus exact rfl))|(apply DenseA.consE;(focus exact rfl);(focus exact rfl);(focus exact rfl)))) rfl rfl rfl rfl ⟨rfl,rfl⟩)|exact Cz rfl (fun _ _=>Lo (by repeat (first|exact DenseA.nil _|(apply DenseA.cons;(focus exact rfl);(focus exact rfl);(focus exact rfl);(focus exact rfl))|(apply DenseA.consE;(focus exact rfl);(focus exact rfl);(focus exact rfl)))) rfl rfl rfl rfl ⟨rfl,rfl⟩))(h:B):A:=k h
theorem Af{A B:Prop}(k:B→A:=by intro b;first|exact A6 rfl (Nh b)|exact B4 (Nh b))(h:B):A:=k h
theorem HQ(i:Nat){A B:Prop}(k:Do i B A:=by first|exact Cy rfl (Nh ⟨rfl,rfl⟩)|exact Cz rfl (fun _ _=>Nh ⟨rfl,rfl⟩))(h:B):A:=k h
theorem Ak{A B:Prop}(k:B→A:=by intro b;first|exact A6 rfl (Ni b)|exact B4 (Ni b))(h:B):A:=k h
theorem FW(i:Nat){A B:Prop}(k:Do i B A:=by first|exact Cy rfl (Ni ⟨rfl,rfl⟩)|exact Cz rfl (fun _ _=>Ni ⟨rfl,rfl⟩))(h:B):A:=k h
theorem i_{A B:Prop}(k:B→A:=by intro b;first|exact A6 rfl (CF rfl rfl rfl (by first|assumption|rfl) b)|exact B4 (CF rfl rfl rfl (by first|assumption|rfl) b))(h:B):A:=k h
theorem Dl(i:Nat){A B:Prop}(k:Do i B A:=by first|exact Cy rfl (CF rfl rfl rfl (by first|assumption|rfl) ⟨rfl,rfl⟩)|exact Cz rfl (fun _ _=>CF rfl rfl rfl (by first|assumption|rfl) ⟨rfl,rfl⟩))(h:B):A:=k h
theorem Xo{A B:Prop}(k:B→A:=by intro b;first|exact A6 rfl (ST rfl rfl (by omega) (by repeat constructor) b)|exact B4 (ST rfl rfl (by omega) (by repeat constructor) b))(h:B):A:=k h
theorem BC{A B:Prop}(k:B→A:=by intro b;first|exact A6 rfl (NR rfl b)|exact B4 (NR rfl b))(h:B):A:=k h
theorem PX(i:Nat){A B:Prop}(k:Do i B A:=by first|exact Cy rfl (NR rfl ⟨rfl,rfl⟩)|exact Cz rfl (fun _ _=>NR rfl ⟨rfl,rfl⟩))(h:B):A:=k h
theorem B8{A B:Prop}(k:B→A:=by intro b;first|exact A6 rfl (Ju rfl rfl (by omega) b)|exact A6 rfl (Em rfl rfl (by omega) b)|exact A6 rfl (PB rfl rfl b)|exact B4 (Ju rfl rfl (by omega) b)|exact B4 (Em rfl rfl (by omega) b)|exact B4 (PB rfl rfl b))(h:B):A:=k h
theorem Nr{A B:Prop}(k:B→A:=by intro b;first|exact A6 rfl (JS rfl rfl (by omega) b)|exact A6 rfl (Lm rfl rfl b)|exact B4 (JS rfl rfl (by omega) b)|exact B4 (Lm rfl rfl b))(h:B):A:=k h
theorem PY(i:Nat){A B:Prop}(k:Do i B A:=by first|exact Cy rfl (JS rfl rfl (by omega) ⟨rfl,rfl⟩)|exact Cy rfl (Lm rfl rfl ⟨rfl,rfl⟩)|exact Cz rfl (fun _ _=>JS rfl rfl (by omega) ⟨rfl,rfl⟩)|exact Cz rfl (fun _ _=>Lm rfl rfl ⟨rfl,rfl⟩))(h:B):A:=k h
theorem Xp{A B:Prop}(k:B→A:=by intro b;first|exact A6 rfl (S6 rfl rfl b)|exact B4 (S6 rfl rfl b))(h:B):A:=k h
theorem AQ{A B:Prop}(k:B→A:=by intro b;first|exact A6 rfl (NL rfl rfl b)|exact A6 rfl (NP rfl rfl b)|exact A6 rfl (Nd (by kernel_rfl) rfl rfl b)|exact B4 (NL rfl rfl b)|exact B4 (NP rfl rfl b)|exact B4 (Nd (by kernel_rfl) rfl rfl b))(h:B):A:=k h
theorem J0(i:Nat){A B:Prop}(k:Do i B A:=by first|exact Cy rfl (NL rfl rfl ⟨rfl,rfl⟩)|exact Cy rfl (NP rfl rfl ⟨rfl,rfl⟩)|exact Cy rfl (Nd (by kernel_rfl) rfl rfl ⟨rfl,rfl⟩)|exact Cz rfl (fun _ _=>NL rfl rfl ⟨rfl,rfl⟩)|exact Cz rfl (fun _ _=>NP rfl rfl ⟨rfl,rfl⟩)|exact Cz rfl (fun _ _=>Nd (by kernel_rfl) rfl rfl ⟨rfl,rfl⟩))(h:B):A:=k h
theorem BK{A B:Prop}(k:B→A:=by intro b;first|exact A6 rfl (NM rfl rfl b)|exact A6 rfl (NQ rfl rfl b)|exact A6 rfl (Lu (by kernel_rfl) rfl rfl b)|exact B4 (NM rfl rfl b)|exact B4 (NQ rfl rfl b)|exact B4 (Lu (by kernel_rfl) rfl rfl b))(h:B):A:=k h
theorem Kr(i:Nat){A B:Prop}(k:Do i B A:=by first|exact Cy rfl (NM rfl rfl ⟨rfl,rfl⟩)|exact Cy rfl (NQ rfl rfl ⟨rfl,rfl⟩)|exact Cy rfl (Lu (by kernel_rfl) rfl rfl ⟨rfl,rfl⟩)|exact Cz rfl (fun _ _=>NM rfl rfl ⟨rfl,rfl⟩)|exact Cz rfl (fun _ _=>NQ rfl rfl ⟨rfl,rfl⟩)|exact Cz rfl (fun _ _=>Lu (by kernel_rfl) rfl rfl ⟨rfl,rfl⟩))(h:B):A:=k h
theorem BG{A B:Prop}(k:B→A:=by intro b;first|exact A6 rfl (S8 rfl rfl b)|exact A6 rfl (SB rfl rfl b)|exact B4 (S8 rfl rfl b)|exact B4 (SB rfl rfl b))(h:B):A:=k h
theorem M4{A B:Prop}(k:B→A:=by intro b;first|exact A6 rfl (NN rfl rfl b)|exact B4 (NN rfl rfl b))(h:B):A:=k h
theorem Xq(i:Nat){A B:Prop}(k:Do i B A:=by first|exact Cy rfl (NN rfl rfl ⟨rfl,rfl⟩)|exact Cz rfl (fun _ _=>NN rfl rfl ⟨rfl,rfl⟩))(h:B):A:=k h
theorem CW{A B:Prop}(k:B→A:=by intro b;first|exact A6 rfl (NO rfl rfl b)|exact B4 (NO rfl rfl b))(h:B):A:=k h
theorem PZ(i:Nat){A B:Prop}(k:Do i B A:=by first|exact Cy rfl (NO rfl rfl ⟨rfl,rfl⟩)|exact Cz rfl (fun _ _=>NO rfl rfl ⟨rfl,rfl⟩))(h:B):A:=k h
theorem Fu{A B:Prop}(k:B→A:=by intro b;first|exact A6 rfl (S9 rfl rfl b)|exact A6 rfl (SC rfl rfl b)|exact B4 (S9 rfl rfl b)|exact B4 (SC rfl rfl b))(h:B):A:=k h
theorem ES{A B:Prop}(k:B→A:=by intro b;first|exact A6 rfl (SV rfl rfl b)|exact B4 (SV rfl rfl b))(h:B):A:=k h
theorem at_{A B:Prop}(k:B→A:=by intro b;first|exact A6 rfl (Sc rfl rfl b)|exact B4 (Sc rfl rfl b))(h:B):A:=k h
theorem Sn{A B:Prop}(k:B→A:=by intro b;first|exact A6 rfl (SW rfl rfl (by omega) b)|exact B4 (SW rfl rfl (by omega) b))(h:B):A:=k h
theorem Be{f:Nat→Option AV}{bx:List (List AV)}{tk:List (Nat×Nat×List (List AV))}{l:List (Nat×AV)}{N:Dim}(n m:Nat){bx':List (List AV)}{tk':List (Nat×Nat×List (List AV))}(hbp:Ag n m bx'=true)(hn:Nat.ble N.ni n=true:=by rfl)(hb:bx.take n=bx':=by rfl)(ht:tk.take m=tk':=by rfl)(hl:Sub n m f l:=by repeat (first|exact Sub.nil|refine Sub.cons _ _ _ rfl rfl ?_|refine Sub.any _ _ ?_|refine Sub.sl _ _ _ _ _ rfl ?_|refine Sub.slnil _ _ _ rfl ?_)):Weak N ⟨f,⟨bx,tk⟩⟩ ⟨look l,⟨bx',tk'⟩⟩:=B1 n m hn hb ht hbp hl
theorem Co{P:Program}{ev:Operand→Option AV}{h:AH}{R:AV→AH→Prop}{d:Option Tmp}{ty:TypeId}{pos:String}{af:Array Edge}{gd:Option (Nat×Bool)}{T:TypeId}{l:List (Nat×Operand)}{pl:List (Nat×Nat)}{row cs:List AV}[hp:Plc P T pl][hz:Zer P T row](hR:R (.agg cs) h)(hf:FillA pl ev row l cs:=by repeat (first|exact FillA.nil _|(apply FillA.cons;(focus exact rfl);(focus exact rfl);(focus exact rfl);(focus exact rfl);(focus exact rfl);(focus (repeat constructor))))):AStep P ⟨d, .build T l.toArray,ty,pos,af,gd⟩ ev h R:=Ln hf hR
theorem ET{P:Program}{ev:Operand→Option AV}{h:AH}{R:AV→AH→Prop}{o:Oper}{x y:AV}(hs:AStep P o ev h fun r h'=>r=x∧h'=h)(hR:R y h)(hl:LeA x y:=by repeat (first|exact LeA.refl _|exact LeA.nil _|exact LeL.refl _|refine LeA.agg ?_|refine LeA.tup ?_|exact LeL.nil|refine LeL.cons ?_ ?_|exact LeA.any _)):AStep P o ev h R:=En hs hl hR
instance :Typ Tryz.prog 3 1 false:=⟨by kernel_rfl⟩
instance :Typ Tryz.prog 4 1 false:=⟨by kernel_rfl⟩
instance :Typ Tryz.prog 9 1 false:=⟨by kernel_rfl⟩
instance :Typ Tryz.prog 22 1 false:=⟨by kernel_rfl⟩
instance :Elm Tryz.prog 22 3 1 8:=⟨by kernel_rfl,by decide⟩
instance :Typ Tryz.prog 26 1 false:=⟨by kernel_rfl⟩
instance :Elm Tryz.prog 26 120 2 32:=⟨by kernel_rfl,by decide⟩
instance :Typ Tryz.prog 28 1 true:=⟨by kernel_rfl⟩
instance :Zer Tryz.prog 28 [.v (.slice none 0 0)]:=⟨[.slice none 0 0],by kernel_rfl,rfl,rfl⟩
instance :Plc Tryz.prog 28 [(0,1)]:=⟨by kernel_rfl⟩
instance :Fld Tryz.prog 28 0 0 1:=⟨by kernel_rfl⟩
instance :Typ Tryz.prog 29 1 false:=⟨by kernel_rfl⟩
instance :Elm Tryz.prog 29 149 3 24:=⟨by kernel_rfl,by decide⟩
instance :Typ Tryz.prog 31 2 true:=⟨by kernel_rfl⟩
instance :Zer Tryz.prog 31 [.v (.slice none 0 0), .v (.slice none 0 0)]:=⟨[.slice none 0 0, .slice none 0 0],by kernel_rfl,rfl,rfl⟩
instance :Plc Tryz.prog 31 [(0,1),(1,1)]:=⟨by kernel_rfl⟩
instance :Fld Tryz.prog 31 0 0 1:=⟨by kernel_rfl⟩
instance :Fld Tryz.prog 31 1 1 1:=⟨by kernel_rfl⟩
instance :Typ Tryz.prog 36 2 true:=⟨by kernel_rfl⟩
instance :Zer Tryz.prog 36 [.v (.int .i64 0), .v (.int .i64 0)]:=⟨[.int .i64 0, .int .i64 0],by kernel_rfl,rfl,rfl⟩
instance :Plc Tryz.prog 36 [(0,1),(1,1)]:=⟨by kernel_rfl⟩
instance :Fld Tryz.prog 36 0 0 1:=⟨by kernel_rfl⟩
instance :Fld Tryz.prog 36 1 1 1:=⟨by kernel_rfl⟩
instance :Typ Tryz.prog 38 6 true:=⟨by kernel_rfl⟩
instance :Zer Tryz.prog 38 [.v (.int .i64 0), .v (.int .i64 0), .v (.int .i64 0), .v (.string ⟨#[]⟩), .v (.int .i64 0), .v (.int .i64 0)]:=⟨[.int .i64 0, .int .i64 0, .int .i64 0, .string ⟨#[]⟩, .int .i64 0, .int .i64 0],by kernel_rfl,rfl,rfl⟩
instance :Plc Tryz.prog 38 [(0,1),(1,2),(3,1),(4,2)]:=⟨by kernel_rfl⟩
instance :Fld Tryz.prog 38 0 0 1:=⟨by kernel_rfl⟩
instance :Fld Tryz.prog 38 1 1 2:=⟨by kernel_rfl⟩
instance :Fld Tryz.prog 38 2 3 1:=⟨by kernel_rfl⟩
instance :Fld Tryz.prog 38 3 4 2:=⟨by kernel_rfl⟩
instance :Typ Tryz.prog 39 1 false:=⟨by kernel_rfl⟩
instance :Typ Tryz.prog 52 13 true:=⟨by kernel_rfl⟩
instance :Zer Tryz.prog 52 [.v (.string ⟨#[]⟩), .v (.string ⟨#[]⟩), .v (.int .i64 0), .v (.int .i64 0), .v (.string ⟨#[]⟩), .v (.int .i64 0), .v (.int .i64 0), .v (.int .i64 0), .v (.int .i64 0), .v (.int .i64 0), .v (.int .i64 0), .v (.int .i64 0), .v (.int .i64 0)]:=⟨[.string ⟨#[]⟩, .string ⟨#[]⟩, .int .i64 0, .int .i64 0, .string ⟨#[]⟩, .int .i64 0, .int .i64 0, .int .i64 0, .int .i64 0, .int .i64 0, .int .i64 0, .int .i64 0, .int .i64 0],by kernel_rfl,rfl,rfl⟩
instance :Plc Tryz.prog 52 [(0,1),(1,1),(2,2),(4,1),(5,2),(7,1),(8,1),(9,1),(10,1),(11,1),(12,1)]:=⟨by kernel_rfl⟩
instance :Fld Tryz.prog 52 1 1 1:=⟨by kernel_rfl⟩
instance :Fld Tryz.prog 52 2 2 2:=⟨by kernel_rfl⟩
instance :Fld Tryz.prog 52 3 4 1:=⟨by kernel_rfl⟩
instance :Fld Tryz.prog 52 4 5 2:=⟨by kernel_rfl⟩
instance :Fld Tryz.prog 52 5 7 1:=⟨by kernel_rfl⟩
instance :Fld Tryz.prog 52 6 8 1:=⟨by kernel_rfl⟩
instance :Fld Tryz.prog 52 7 9 1:=⟨by kernel_rfl⟩
instance :Fld Tryz.prog 52 8 10 1:=⟨by kernel_rfl⟩
instance :Fld Tryz.prog 52 9 11 1:=⟨by kernel_rfl⟩
instance :Typ Tryz.prog 53 1 false:=⟨by kernel_rfl⟩
instance :Elm Tryz.prog 53 61 14 144:=⟨by kernel_rfl,by decide⟩
instance :Typ Tryz.prog 55 3 true:=⟨by kernel_rfl⟩
instance :Zer Tryz.prog 55 [.v (.int .i64 0), .v (.int .i64 0), .v (.slice none 0 0)]:=⟨[.int .i64 0, .int .i64 0, .slice none 0 0],by kernel_rfl,rfl,rfl⟩
instance :Plc Tryz.prog 55 [(0,1),(1,1),(2,1)]:=⟨by kernel_rfl⟩
instance :Fld Tryz.prog 55 0 0 1:=⟨by kernel_rfl⟩
instance :Fld Tryz.prog 55 1 1 1:=⟨by kernel_rfl⟩
instance :Fld Tryz.prog 55 2 2 1:=⟨by kernel_rfl⟩
instance :Typ Tryz.prog 57 5 true:=⟨by kernel_rfl⟩
instance :Zer Tryz.prog 57 [.v (.slice none 0 0), .v (.slice none 0 0), .v (.int .i64 0), .v (.int .i64 0), .v (.slice none 0 0)]:=⟨[.slice none 0 0, .slice none 0 0, .int .i64 0, .int .i64 0, .slice none 0 0],by kernel_rfl,rfl,rfl⟩
instance :Plc Tryz.prog 57 [(0,2),(2,3)]:=⟨by kernel_rfl⟩
instance :Fld Tryz.prog 57 0 0 2:=⟨by kernel_rfl⟩
instance :Fld Tryz.prog 57 1 2 3:=⟨by kernel_rfl⟩
instance :Typ Tryz.prog 59 1 false:=⟨by kernel_rfl⟩
instance :Elm Tryz.prog 59 243 4 32:=⟨by kernel_rfl,by decide⟩
instance :Typ Tryz.prog 61 14 true:=⟨by kernel_rfl⟩
instance :Zer Tryz.prog 61 [.v (.int .i64 0), .v (.int .i64 0), .v (.int .i64 0), .v (.int .i64 0), .v (.int .i64 0), .v (.int .i64 0), .v (.int .i64 0), .v (.int .i64 0), .v (.int .i64 0), .v (.int .i64 0), .v (.string ⟨#[]⟩), .v (.string ⟨#[]⟩), .v (.slice none 0 0), .v (.bool false)]:=⟨[.int .i64 0, .int .i64 0, .int .i64 0, .int .i64 0, .int .i64 0, .int .i64 0, .int .i64 0, .int .i64 0, .int .i64 0, .int .i64 0, .string ⟨#[]⟩, .string ⟨#[]⟩, .slice none 0 0, .bool false],by kernel_rfl,rfl,rfl⟩
instance :Plc Tryz.prog 61 [(0,1),(1,1),(2,1),(3,1),(4,1),(5,1),(6,1),(7,1),(8,2),(10,1),(11,1),(12,1),(13,1)]:=⟨by kernel_rfl⟩
instance :Fld Tryz.prog 61 0 0 1:=⟨by kernel_rfl⟩
instance :Fld Tryz.prog 61 1 1 1:=⟨by kernel_rfl⟩
instance :Fld Tryz.prog 61 2 2 1:=⟨by kernel_rfl⟩
instance :Fld Tryz.prog 61 3 3 1:=⟨by kernel_rfl⟩
instance :Fld Tryz.prog 61 4 4 1:=⟨by kernel_rfl⟩
instance :Fld Tryz.prog 61 5 5 1:=⟨by kernel_rfl⟩
instance :Fld Tryz.prog 61 6 6 1:=⟨by kernel_rfl⟩
instance :Fld Tryz.prog 61 7 7 1:=⟨by kernel_rfl⟩
instance :Fld Tryz.prog 61 8 8 2:=⟨by kernel_rfl⟩
instance :Fld Tryz.prog 61 9 10 1:=⟨by kernel_rfl⟩
instance :Fld Tryz.prog 61 10 11 1:=⟨by kernel_rfl⟩
instance :Fld Tryz.prog 61 11 12 1:=⟨by kernel_rfl⟩
instance :Typ Tryz.prog 62 4 true:=⟨by kernel_rfl⟩
instance :Zer Tryz.prog 62 [.v (.int .i64 0), .v (.int .i64 0), .v (.int .i64 0), .v (.int .i64 0)]:=⟨[.int .i64 0, .int .i64 0, .int .i64 0, .int .i64 0],by kernel_rfl,rfl,rfl⟩
instance :Plc Tryz.prog 62 [(0,1),(1,1),(2,1),(3,1)]:=⟨by kernel_rfl⟩
instance :Typ Tryz.prog 63 1 false:=⟨by kernel_rfl⟩
instance :Elm Tryz.prog 63 9 1 16:=⟨by kernel_rfl,by decide⟩
instance :Typ Tryz.prog 65 7 true:=⟨by kernel_rfl⟩
instance :Zer Tryz.prog 65 [.v (.int .i64 0), .v (.int .i64 0), .v (.int .i64 0), .v (.int .i64 0), .v (.int .i64 0), .v (.slice none 0 0), .v (.slice none 0 0)]:=⟨[.int .i64 0, .int .i64 0, .int .i64 0, .int .i64 0, .int .i64 0, .slice none 0 0, .slice none 0 0],by kernel_rfl,rfl,rfl⟩
instance :Plc Tryz.prog 65 [(0,1),(1,4),(5,1),(6,1)]:=⟨by kernel_rfl⟩
instance :Fld Tryz.prog 65 0 0 1:=⟨by kernel_rfl⟩
instance :Fld Tryz.prog 65 1 1 4:=⟨by kernel_rfl⟩
instance :Fld Tryz.prog 65 2 5 1:=⟨by kernel_rfl⟩
instance :Fld Tryz.prog 65 3 6 1:=⟨by kernel_rfl⟩
instance :Typ Tryz.prog 66 1 false:=⟨by kernel_rfl⟩
instance :Elm Tryz.prog 66 52 13 128:=⟨by kernel_rfl,by decide⟩
instance :Typ Tryz.prog 68 25 true:=⟨by kernel_rfl⟩
instance :Zer Tryz.prog 68 [.v (.int .i64 0), .v (.int .i64 0), .v (.int .i64 0), .v (.int .i64 0), .v (.int .i64 0), .v (.int .i64 0), .v (.int .i64 0), .v (.int .i64 0), .v (.int .i64 0), .v (.int .i64 0), .v (.int .i64 0), .v (.string ⟨#[]⟩), .v (.string ⟨#[]⟩), .v (.slice none 0 0), .v (.bool false), .v (.int .i64 0), .v (.int .i64 0), .v (.int .i64 0), .v (.int .i64 0), .v (.int .i64 0), .v (.slice none 0 0), .v (.slice none 0 0), .v (.int .i64 0), .v (.slice none 0 0), .v (.int .i64 0)]:=⟨[.int .i64 0, .int .i64 0, .int .i64 0, .int .i64 0, .int .i64 0, .int .i64 0, .int .i64 0, .int .i64 0, .int .i64 0, .int .i64 0, .int .i64 0, .string ⟨#[]⟩, .string ⟨#[]⟩, .slice none 0 0, .bool false, .int .i64 0, .int .i64 0, .int .i64 0, .int .i64 0, .int .i64 0, .slice none 0 0, .slice none 0 0, .int .i64 0, .slice none 0 0, .int .i64 0],by kernel_rfl,rfl,rfl⟩
instance :Plc Tryz.prog 68 [(0,1),(1,14),(15,7),(22,1),(23,1),(24,1)]:=⟨by kernel_rfl⟩
instance :Fld Tryz.prog 68 1 1 14:=⟨by kernel_rfl⟩
instance :Fld Tryz.prog 68 4 23 1:=⟨by kernel_rfl⟩
instance :Typ Tryz.prog 69 1 false:=⟨by kernel_rfl⟩
instance :Elm Tryz.prog 69 79 7 64:=⟨by kernel_rfl,by decide⟩
instance :Typ Tryz.prog 71 5 true:=⟨by kernel_rfl⟩
instance :Zer Tryz.prog 71 [.v (.int .i64 0), .v (.int .i64 0), .v (.int .i64 0), .v (.slice none 0 0), .v (.slice none 0 0)]:=⟨[.int .i64 0, .int .i64 0, .int .i64 0, .slice none 0 0, .slice none 0 0],by kernel_rfl,rfl,rfl⟩
instance :Plc Tryz.prog 71 [(0,1),(1,1),(2,1),(3,1),(4,1)]:=⟨by kernel_rfl⟩
instance :Fld Tryz.prog 71 0 0 1:=⟨by kernel_rfl⟩
instance :Fld Tryz.prog 71 1 1 1:=⟨by kernel_rfl⟩
instance :Fld Tryz.prog 71 2 2 1:=⟨by kernel_rfl⟩
instance :Fld Tryz.prog 71 3 3 1:=⟨by kernel_rfl⟩
instance :Fld Tryz.prog 71 4 4 1:=⟨by kernel_rfl⟩
instance :Typ Tryz.prog 79 7 true:=⟨by kernel_rfl⟩
instance :Zer Tryz.prog 79 [.v (.int .i64 0), .v (.int .i64 0), .v (.string ⟨#[]⟩), .v (.int .i64 0), .v (.int .i64 0), .v (.int .i64 0), .v (.int .i64 0)]:=⟨[.int .i64 0, .int .i64 0, .string ⟨#[]⟩, .int .i64 0, .int .i64 0, .int .i64 0, .int .i64 0],by kernel_rfl,rfl,rfl⟩
instance :Plc Tryz.prog 79 [(0,2),(2,1),(3,2),(5,2)]:=⟨by kernel_rfl⟩
instance :Fld Tryz.prog 79 0 0 2:=⟨by kernel_rfl⟩
instance :Fld Tryz.prog 79 1 2 1:=⟨by kernel_rfl⟩
instance :Fld Tryz.prog 79 2 3 2:=⟨by kernel_rfl⟩
instance :Fld Tryz.prog 79 3 5 2:=⟨by kernel_rfl⟩
instance :Typ Tryz.prog 99 1 false:=⟨by kernel_rfl⟩
instance :Elm Tryz.prog 99 138 2 24:=⟨by kernel_rfl,by decide⟩
instance :Typ Tryz.prog 101 8 true:=⟨by kernel_rfl⟩
instance :Zer Tryz.prog 101 [.v (.int .i64 0), .v (.int .i64 0), .v (.int .i64 0), .v (.int .i64 0), .v (.int .i64 0), .v (.int .i64 0), .v (.string ⟨#[]⟩), .v (.slice none 0 0)]:=⟨[.int .i64 0, .int .i64 0, .int .i64 0, .int .i64 0, .int .i64 0, .int .i64 0, .string ⟨#[]⟩, .slice none 0 0],by kernel_rfl,rfl,rfl⟩
instance :Plc Tryz.prog 101 [(0,1),(1,1),(2,1),(3,1),(4,1),(5,1),(6,1),(7,1)]:=⟨by kernel_rfl⟩
instance :Fld Tryz.prog 101 0 0 1:=⟨by kernel_rfl⟩
instance :Fld Tryz.prog 101 1 1 1:=⟨by kernel_rfl⟩
instance :Fld Tryz.prog 101 2 2 1:=⟨by kernel_rfl⟩
instance :Fld Tryz.prog 101 3 3 1:=⟨by kernel_rfl⟩
instance :Fld Tryz.prog 101 4 4 1:=⟨by kernel_rfl⟩
instance :Fld Tryz.prog 101 5 5 1:=⟨by kernel_rfl⟩
instance :Fld Tryz.prog 101 6 6 1:=⟨by kernel_rfl⟩
instance :Fld Tryz.prog 101 7 7 1:=⟨by kernel_rfl⟩
instance :Zer Tryz.prog 106 [.v (.slice none 0 0), .v (.int .i64 0)]:=⟨[.slice none 0 0, .int .i64 0],by kernel_rfl,rfl,rfl⟩
instance :Plc Tryz.prog 106 [(0,1),(1,1)]:=⟨by kernel_rfl⟩
instance :Fld Tryz.prog 106 0 0 1:=⟨by kernel_rfl⟩
instance :Fld Tryz.prog 106 1 1 1:=⟨by kernel_rfl⟩
instance :Typ Tryz.prog 113 8 true:=⟨by kernel_rfl⟩
instance :Zer Tryz.prog 113 [.v (.int .i64 0), .v (.int .i64 0), .v (.string ⟨#[]⟩), .v (.int .i64 0), .v (.int .i64 0), .v (.bool false), .v (.bool false), .v (.string ⟨#[]⟩)]:=⟨[.int .i64 0, .int .i64 0, .string ⟨#[]⟩, .int .i64 0, .int .i64 0, .bool false, .bool false, .string ⟨#[]⟩],by kernel_rfl,rfl,rfl⟩
instance :Plc Tryz.prog 113 [(0,2),(2,1),(3,2),(5,1),(6,1),(7,1)]:=⟨by kernel_rfl⟩
instance :Fld Tryz.prog 113 0 0 2:=⟨by kernel_rfl⟩
instance :Fld Tryz.prog 113 1 2 1:=⟨by kernel_rfl⟩
instance :Fld Tryz.prog 113 2 3 2:=⟨by kernel_rfl⟩
instance :Fld Tryz.prog 113 3 5 1:=⟨by kernel_rfl⟩
instance :Fld Tryz.prog 113 4 6 1:=⟨by kernel_rfl⟩
instance :Fld Tryz.prog 113 5 7 1:=⟨by kernel_rfl⟩
instance :Typ Tryz.prog 118 1 false:=⟨by kernel_rfl⟩
instance :Elm Tryz.prog 118 101 8 88:=⟨by kernel_rfl,by decide⟩
instance :Typ Tryz.prog 120 2 true:=⟨by kernel_rfl⟩
instance :Zer Tryz.prog 120 [.v (.int .i64 0), .v (.slice none 0 0)]:=⟨[.int .i64 0, .slice none 0 0],by kernel_rfl,rfl,rfl⟩
instance :Plc Tryz.prog 120 [(0,1),(1,1)]:=⟨by kernel_rfl⟩
instance :Fld Tryz.prog 120 0 0 1:=⟨by kernel_rfl⟩
instance :Fld Tryz.prog 120 1 1 1:=⟨by kernel_rfl⟩
instance :Zer Tryz.prog 122 [.v (.int .i64 0), .v (.int .i64 0), .v (.int .i64 0), .v (.int .i64 0)]:=⟨[.int .i64 0, .int .i64 0, .int .i64 0, .int .i64 0],by kernel_rfl,rfl,rfl⟩
instance :Plc Tryz.prog 122 [(0,2),(2,2)]:=⟨by kernel_rfl⟩
instance :Typ Tryz.prog 128 1 false:=⟨by kernel_rfl⟩
instance :Elm Tryz.prog 128 113 8 72:=⟨by kernel_rfl,by decide⟩
instance :Zer Tryz.prog 130 [.v (.slice none 0 0), .v (.slice none 0 0), .v (.int .i64 0), .v (.int .i64 0), .v (.slice none 0 0), .v (.int .i64 0), .v (.int .i64 0), .v (.int .i64 0), .v (.int .i64 0), .v (.int .i64 0), .v (.int .i64 0), .v (.int .i64 0), .v (.int .i64 0), .v (.int .i64 0), .v (.int .i64 0), .v (.string ⟨#[]⟩), .v (.string ⟨#[]⟩), .v (.slice none 0 0), .v (.bool false), .v (.int .i64 0), .v (.int .i64 0), .v (.int .i64 0), .v (.int .i64 0), .v (.int .i64 0), .v (.slice none 0 0), .v (.slice none 0 0), .v (.slice none 0 0), .v (.int .i64 0), .v (.int .i64 0), .v (.int .i64 0), .v (.slice none 0 0), .v (.slice none 0 0)]:=⟨[.slice none 0 0, .slice none 0 0, .int .i64 0, .int .i64 0, .slice none 0 0, .int .i64 0, .int .i64 0, .int .i64 0, .int .i64 0, .int .i64 0, .int .i64 0, .int .i64 0, .int .i64 0, .int .i64 0, .int .i64 0, .string ⟨#[]⟩, .string ⟨#[]⟩, .slice none 0 0, .bool false, .int .i64 0, .int .i64 0, .int .i64 0, .int .i64 0, .int .i64 0, .slice none 0 0, .slice none 0 0, .slice none 0 0, .int .i64 0, .int .i64 0, .int .i64 0, .slice none 0 0, .slice none 0 0],by kernel_rfl,rfl,rfl⟩
instance :Plc Tryz.prog 130 [(0,5),(5,14),(19,7),(26,1),(27,5)]:=⟨by kernel_rfl⟩
instance :Fld Tryz.prog 130 0 0 5:=⟨by kernel_rfl⟩
instance :Fld Tryz.prog 130 1 5 14:=⟨by kernel_rfl⟩
instance :Fld Tryz.prog 130 2 19 7:=⟨by kernel_rfl⟩
instance :Fld Tryz.prog 130 3 26 1:=⟨by kernel_rfl⟩
instance :Fld Tryz.prog 130 4 27 5:=⟨by kernel_rfl⟩
instance :Typ Tryz.prog 138 2 true:=⟨by kernel_rfl⟩
instance :Zer Tryz.prog 138 [.v (.string ⟨#[]⟩), .v (.int .i64 0)]:=⟨[.string ⟨#[]⟩, .int .i64 0],by kernel_rfl,rfl,rfl⟩
instance :Plc Tryz.prog 138 [(0,1),(1,1)]:=⟨by kernel_rfl⟩
instance :Fld Tryz.prog 138 0 0 1:=⟨by kernel_rfl⟩
instance :Fld Tryz.prog 138 1 1 1:=⟨by kernel_rfl⟩
instance :Elm Tryz.prog 140 39 1 8:=⟨by kernel_rfl,by decide⟩
instance :Typ Tryz.prog 149 3 true:=⟨by kernel_rfl⟩
instance :Zer Tryz.prog 149 [.v (.int .i64 0), .v (.int .i64 0), .v (.int .i64 0)]:=⟨[.int .i64 0, .int .i64 0, .int .i64 0],by kernel_rfl,rfl,rfl⟩
instance :Plc Tryz.prog 149 [(0,1),(1,2)]:=⟨by kernel_rfl⟩
instance :Fld Tryz.prog 149 0 0 1:=⟨by kernel_rfl⟩
instance :Fld Tryz.prog 149 1 1 2:=⟨by kernel_rfl⟩
instance :Elm Tryz.prog 150 36 2 16:=⟨by kernel_rfl,by decide⟩
instance :Typ Tryz.prog 167 11 true:=⟨by kernel_rfl⟩
instance :Zer Tryz.prog 167 [.v (.slice none 0 0), .v (.slice none 0 0), .v (.slice none 0 0), .v (.int .i64 0), .v (.int .i64 0), .v (.int .i64 0), .v (.int .i64 0), .v (.string ⟨#[]⟩), .v (.bool false), .v (.bool false), .v (.int .i64 0)]:=⟨[.slice none 0 0, .slice none 0 0, .slice none 0 0, .int .i64 0, .int .i64 0, .int .i64 0, .int .i64 0, .string ⟨#[]⟩, .bool false, .bool false, .int .i64 0],by kernel_rfl,rfl,rfl⟩
instance :Plc Tryz.prog 167 [(0,2),(2,1),(3,2),(5,2),(7,1),(8,1),(9,1),(10,1)]:=⟨by kernel_rfl⟩
instance :Fld Tryz.prog 167 0 0 2:=⟨by kernel_rfl⟩
instance :Fld Tryz.prog 167 1 2 1:=⟨by kernel_rfl⟩
instance :Fld Tryz.prog 167 2 3 2:=⟨by kernel_rfl⟩
instance :Fld Tryz.prog 167 3 5 2:=⟨by kernel_rfl⟩
instance :Fld Tryz.prog 167 4 7 1:=⟨by kernel_rfl⟩
instance :Fld Tryz.prog 167 5 8 1:=⟨by kernel_rfl⟩
instance :Fld Tryz.prog 167 6 9 1:=⟨by kernel_rfl⟩
instance :Fld Tryz.prog 167 7 10 1:=⟨by kernel_rfl⟩
instance :Typ Tryz.prog 181 5 true:=⟨by kernel_rfl⟩
instance :Zer Tryz.prog 181 [.v (.string ⟨#[]⟩), .v (.int .i64 0), .v (.int .i64 0), .v (.int .i64 0), .v (.int .i64 0)]:=⟨[.string ⟨#[]⟩, .int .i64 0, .int .i64 0, .int .i64 0, .int .i64 0],by kernel_rfl,rfl,rfl⟩
instance :Plc Tryz.prog 181 [(0,1),(1,1),(2,1),(3,1),(4,1)]:=⟨by kernel_rfl⟩
instance :Fld Tryz.prog 181 0 0 1:=⟨by kernel_rfl⟩
instance :Fld Tryz.prog 181 1 1 1:=⟨by kernel_rfl⟩
instance :Fld Tryz.prog 181 2 2 1:=⟨by kernel_rfl⟩
instance :Fld Tryz.prog 181 3 3 1:=⟨by kernel_rfl⟩
instance :Fld Tryz.prog 181 4 4 1:=⟨by kernel_rfl⟩
instance :Elm Tryz.prog 206 181 5 48:=⟨by kernel_rfl,by decide⟩
instance :Typ Tryz.prog 243 4 true:=⟨by kernel_rfl⟩
instance :Zer Tryz.prog 243 [.v (.int .i64 0), .v (.int .i64 0), .v (.int .i64 0), .v (.int .i64 0)]:=⟨[.int .i64 0, .int .i64 0, .int .i64 0, .int .i64 0],by kernel_rfl,rfl,rfl⟩
instance :Plc Tryz.prog 243 [(0,1),(1,2),(3,1)]:=⟨by kernel_rfl⟩
instance :Fld Tryz.prog 243 0 0 1:=⟨by kernel_rfl⟩
instance :Fld Tryz.prog 243 1 1 2:=⟨by kernel_rfl⟩
instance :Fun Tryz.prog 11:=⟨by kernel_rfl⟩
instance :Fun Tryz.prog 12:=⟨by kernel_rfl⟩
instance :Fun Tryz.prog 14:=⟨by kernel_rfl⟩
instance :Fun Tryz.prog 15:=⟨by kernel_rfl⟩
instance :Fun Tryz.prog 16:=⟨by kernel_rfl⟩
instance :Fun Tryz.prog 17:=⟨by kernel_rfl⟩
instance :Fun Tryz.prog 18:=⟨by kernel_rfl⟩
instance :Fun Tryz.prog 20:=⟨by kernel_rfl⟩
instance :Fun Tryz.prog 21:=⟨by kernel_rfl⟩
instance :Fun Tryz.prog 23:=⟨by kernel_rfl⟩
instance :Fun Tryz.prog 24:=⟨by kernel_rfl⟩
instance :Fun Tryz.prog 27:=⟨by kernel_rfl⟩
instance :Fun Tryz.prog 28:=⟨by kernel_rfl⟩
instance :Fun Tryz.prog 29:=⟨by kernel_rfl⟩
instance :Fun Tryz.prog 30:=⟨by kernel_rfl⟩
instance :Fun Tryz.prog 31:=⟨by kernel_rfl⟩
instance :Fun Tryz.prog 32:=⟨by kernel_rfl⟩
instance :Fun Tryz.prog 33:=⟨by kernel_rfl⟩
instance :Fun Tryz.prog 35:=⟨by kernel_rfl⟩
instance :Fun Tryz.prog 36:=⟨by kernel_rfl⟩
instance :Fun Tryz.prog 37:=⟨by kernel_rfl⟩
instance :Fun Tryz.prog 38:=⟨by kernel_rfl⟩
instance :Fun Tryz.prog 39:=⟨by kernel_rfl⟩
instance :Fun Tryz.prog 41:=⟨by kernel_rfl⟩
instance :Fun Tryz.prog 42:=⟨by kernel_rfl⟩
instance :Fun Tryz.prog 43:=⟨by kernel_rfl⟩
instance :Fun Tryz.prog 44:=⟨by kernel_rfl⟩
instance :Fun Tryz.prog 45:=⟨by kernel_rfl⟩
instance :Fun Tryz.prog 46:=⟨by kernel_rfl⟩
instance :Fun Tryz.prog 47:=⟨by kernel_rfl⟩
instance :Fun Tryz.prog 49:=⟨by kernel_rfl⟩
instance :Fun Tryz.prog 50:=⟨by kernel_rfl⟩
instance :Fun Tryz.prog 51:=⟨by kernel_rfl⟩
instance :Fun Tryz.prog 52:=⟨by kernel_rfl⟩
instance :Fun Tryz.prog 53:=⟨by kernel_rfl⟩
instance :Fun Tryz.prog 54:=⟨by kernel_rfl⟩
instance :Fun Tryz.prog 55:=⟨by kernel_rfl⟩
instance :Fun Tryz.prog 56:=⟨by kernel_rfl⟩
instance :Fun Tryz.prog 57:=⟨by kernel_rfl⟩
instance :Fun Tryz.prog 58:=⟨by kernel_rfl⟩
instance :Fun Tryz.prog 59:=⟨by kernel_rfl⟩
instance :Fun Tryz.prog 61:=⟨by kernel_rfl⟩
instance :Fun Tryz.prog 62:=⟨by kernel_rfl⟩
instance :Fun Tryz.prog 63:=⟨by kernel_rfl⟩
instance :Fun Tryz.prog 64:=⟨by kernel_rfl⟩
instance :Fun Tryz.prog 65:=⟨by kernel_rfl⟩
instance :Fun Tryz.prog 66:=⟨by kernel_rfl⟩
instance :Fun Tryz.prog 67:=⟨by kernel_rfl⟩
instance :Fun Tryz.prog 68:=⟨by kernel_rfl⟩
instance :Fun Tryz.prog 69:=⟨by kernel_rfl⟩
instance :Fun Tryz.prog 70:=⟨by kernel_rfl⟩
instance :Fun Tryz.prog 71:=⟨by kernel_rfl⟩
instance :Fun Tryz.prog 72:=⟨by kernel_rfl⟩
instance :Fun Tryz.prog 73:=⟨by kernel_rfl⟩
instance :Fun Tryz.prog 74:=⟨by kernel_rfl⟩
instance :Fun Tryz.prog 75:=⟨by kernel_rfl⟩
instance :Fun Tryz.prog 76:=⟨by kernel_rfl⟩
instance :Fun Tryz.prog 77:=⟨by kernel_rfl⟩
instance :Fun Tryz.prog 78:=⟨by kernel_rfl⟩
instance :Fun Tryz.prog 79:=⟨by kernel_rfl⟩
instance :Fun Tryz.prog 81:=⟨by kernel_rfl⟩
instance :Fun Tryz.prog 82:=⟨by kernel_rfl⟩
instance :Fun Tryz.prog 83:=⟨by kernel_rfl⟩
instance :Fun Tryz.prog 84:=⟨by kernel_rfl⟩
instance :Fun Tryz.prog 85:=⟨by kernel_rfl⟩
instance :Fun Tryz.prog 86:=⟨by kernel_rfl⟩
instance :Fun Tryz.prog 88:=⟨by kernel_rfl⟩
instance :Fun Tryz.prog 91:=⟨by kernel_rfl⟩
instance :Fun Tryz.prog 92:=⟨by kernel_rfl⟩
instance :Fun Tryz.prog 93:=⟨by kernel_rfl⟩
instance :Fun Tryz.prog 94:=⟨by kernel_rfl⟩
instance :Fun Tryz.prog 95:=⟨by kernel_rfl⟩
instance :Fun Tryz.prog 96:=⟨by kernel_rfl⟩
instance :Fun Tryz.prog 97:=⟨by kernel_rfl⟩
instance :Fun Tryz.prog 98:=⟨by kernel_rfl⟩
instance :Fun Tryz.prog 99:=⟨by kernel_rfl⟩
instance :Fun Tryz.prog 100:=⟨by kernel_rfl⟩
instance :Fun Tryz.prog 101:=⟨by kernel_rfl⟩
instance :Fun Tryz.prog 102:=⟨by kernel_rfl⟩
instance :Fun Tryz.prog 103:=⟨by kernel_rfl⟩
instance :Fun Tryz.prog 105:=⟨by kernel_rfl⟩
instance :Fun Tryz.prog 107:=⟨by kernel_rfl⟩
instance :Fun Tryz.prog 108:=⟨by kernel_rfl⟩
instance :Fun Tryz.prog 109:=⟨by kernel_rfl⟩
instance :Fun Tryz.prog 110:=⟨by kernel_rfl⟩
instance :Fun Tryz.prog 111:=⟨by kernel_rfl⟩
instance :Fun Tryz.prog 112:=⟨by kernel_rfl⟩
instance :Fun Tryz.prog 113:=⟨by kernel_rfl⟩
instance :Fun Tryz.prog 114:=⟨by kernel_rfl⟩
instance :Fun Tryz.prog 115:=⟨by kernel_rfl⟩
instance :Fun Tryz.prog 116:=⟨by kernel_rfl⟩
instance :Fun Tryz.prog 117:=⟨by kernel_rfl⟩
instance :Fun Tryz.prog 118:=⟨by kernel_rfl⟩
instance :Fun Tryz.prog 119:=⟨by kernel_rfl⟩
instance :Fun Tryz.prog 120:=⟨by kernel_rfl⟩
instance :Fun Tryz.prog 121:=⟨by kernel_rfl⟩
instance :Fun Tryz.prog 122:=⟨by kernel_rfl⟩
instance :Fun Tryz.prog 124:=⟨by kernel_rfl⟩
instance :Fun Tryz.prog 125:=⟨by kernel_rfl⟩
instance :Fun Tryz.prog 126:=⟨by kernel_rfl⟩
instance :Fun Tryz.prog 127:=⟨by kernel_rfl⟩
instance :Fun Tryz.prog 132:=⟨by kernel_rfl⟩
instance :Fun Tryz.prog 134:=⟨by kernel_rfl⟩
instance :Fun Tryz.prog 135:=⟨by kernel_rfl⟩
instance :Fun Tryz.prog 136:=⟨by kernel_rfl⟩
instance :Fun Tryz.prog 137:=⟨by kernel_rfl⟩
instance :Fun Tryz.prog 138:=⟨by kernel_rfl⟩
instance :Fun Tryz.prog 139:=⟨by kernel_rfl⟩
instance :Fun Tryz.prog 140:=⟨by kernel_rfl⟩
instance :Fun Tryz.prog 141:=⟨by kernel_rfl⟩
instance :Fun Tryz.prog 142:=⟨by kernel_rfl⟩
instance :Fun Tryz.prog 143:=⟨by kernel_rfl⟩
instance :Fun Tryz.prog 145:=⟨by kernel_rfl⟩
instance :Fun Tryz.prog 147:=⟨by kernel_rfl⟩
instance :Fun Tryz.prog 148:=⟨by kernel_rfl⟩
instance :Fun Tryz.prog 149:=⟨by kernel_rfl⟩
instance :Fun Tryz.prog 150:=⟨by kernel_rfl⟩
instance :Fun Tryz.prog 151:=⟨by kernel_rfl⟩
instance :Fun Tryz.prog 152:=⟨by kernel_rfl⟩
instance :Fun Tryz.prog 153:=⟨by kernel_rfl⟩
instance :Fun Tryz.prog 154:=⟨by kernel_rfl⟩
instance :Fun Tryz.prog 155:=⟨by kernel_rfl⟩
instance :Fun Tryz.prog 156:=⟨by kernel_rfl⟩
instance :Fun Tryz.prog 157:=⟨by kernel_rfl⟩
instance :Fun Tryz.prog 158:=⟨by kernel_rfl⟩
instance :Fun Tryz.prog 159:=⟨by kernel_rfl⟩
instance :Fun Tryz.prog 160:=⟨by kernel_rfl⟩
instance :Fun Tryz.prog 161:=⟨by kernel_rfl⟩
instance :Fun Tryz.prog 162:=⟨by kernel_rfl⟩
instance :Fun Tryz.prog 163:=⟨by kernel_rfl⟩
instance :Fun Tryz.prog 164:=⟨by kernel_rfl⟩
instance :Fun Tryz.prog 165:=⟨by kernel_rfl⟩
instance :Fun Tryz.prog 166:=⟨by kernel_rfl⟩
instance :Fun Tryz.prog 177:=⟨by kernel_rfl⟩
instance :Fun Tryz.prog 181:=⟨by kernel_rfl⟩
instance :Fun Tryz.prog 182:=⟨by kernel_rfl⟩
instance :Fun Tryz.prog 187:=⟨by kernel_rfl⟩
instance :Fun Tryz.prog 188:=⟨by kernel_rfl⟩
instance :Fun Tryz.prog 189:=⟨by kernel_rfl⟩
instance :Fun Tryz.prog 190:=⟨by kernel_rfl⟩
instance :Fun Tryz.prog 191:=⟨by kernel_rfl⟩
end Go.Proofs.YtbglbmnhgbgelaaGreatDoor
namespace Go.Proofs.YtbglbmnhgbgelaaGreatDoor
abbrev AG:=ByteArray
abbrev A9:=Int×Int
abbrev BL:=AG×Int
abbrev D6:=Int×A9
abbrev Dm:=A9×AG×A9×A9
structure Nod where
 ino:Int
 kind:Int
 mode:Int
 uid:Int
 gid:Int
 parent:Int
 target:AG
 entries:List BL
structure Dvc where
 next:Int
 nodes:List Nod
abbrev AZ:=List Dvc
structure Spc where
 files:AZ
 mounts:List D6
def Nod.zero:Nod:=⟨0,0,0,0,0,0,⟨#[]⟩,[]⟩
def K8{α:Type}(p:α→Bool)(l:List α):Int:=
 match l.findIdx? p with
 |some i=>(i:Int)
 |none=> -1
def EG{α:Type}(l:List α)(i:Int):Option α:=if i<0 then none else l[i.toNat]?
theorem K9{α:Type}(l:List α)(k:Nat):EG l (k:Int)=l[k]?:=by
 simp[EG,show¬((k:Int)<0) by omega]
theorem Ns{α:Type}{l:List α}{i:Int}(h:i<0∨(l.length:Int)≤i):EG l i=none:=by
 unfold EG
 split
 ·rfl
 rw[List.getElem?_eq_none];omega
theorem Xr{α:Type}{l:List α}{i:Int}{x:α}(h:EG l i=some x):0≤i∧i<l.length∧l[i.toNat]?=some x:=by
 unfold EG at h
 split at h
 ·cases h
 have:=(Ar.1 h).1
 exact⟨by omega,by omega,h⟩
theorem So{α:Type}{p:α→Bool}{l:List α}{m:Nat}{x:α}(hx:l[m]?=some x)(hp:p x=true)(h:∀j y,j<m→l[j]?=some y→p y=false):l.findIdx? p=some m:=by
 have hl:m<l.length:=(Ar.1 hx).1
 rw[List.findIdx?_eq_some_iff_getElem]
 refine⟨hl,by rw[(Ar.1 hx).2];exact hp,fun j hj=>?_⟩
 have:=h j l[j] hj (B3 _)
 simp[this]
theorem Sq{α:Type}{p:α→Bool}{l:List α}{m:Nat}{x:α}(hx:l[m]?=some x)(hp:p x=true)(h:∀j y,j<m→l[j]?=some y→p y=false):K8 p l=m:=by
 unfold K8
 rw[So hx hp h]
theorem Xs{α:Type}{p:α→Bool}{l:List α}(h:∀j y,j<l.length→l[j]?=some y→p y=false):K8 p l= -1:=by
 unfold K8
 rw[List.findIdx?_eq_none_iff.2]
 intro x hx
 obtain⟨j,hj,rfl⟩:=List.mem_iff_getElem.1 hx
 exact h j _ hj (B3 hj)
theorem E1{α:Type}{P:α→Prop}{l:List α}{m:Nat}{x:α}(hx:l[m]?=some x)(h:∀j y,j<m→l[j]?=some y→P y)(hp:P x):∀j y,j<m+1→l[j]?=some y→P y:=by
 intro j y hj hy
 by_cases e:j=m
 ·subst e
  rw[hx]at hy
  cases hy
  exact hp
 exact h j y (by omega) hy
def F9(f:AZ)(at_:A9):Int:=
 match EG f at_.1 with
 |none=> -1
 |some d=>K8 (fun n:Nod=>n.ino==at_.2) d.nodes
def Bl(f:AZ)(at_:A9):Option Nod:=
 match EG f at_.1 with
 |none=>none
 |some d=>d.nodes.find? (fun n:Nod=>n.ino==at_.2)
theorem Sr{α:Type}{p:α→Bool}{l:List α}:(l.findIdx? p).bind (fun i=>l[i]?)=l.find? p:=by
 cases h:l.findIdx? p with
 |none=>
   rw[List.findIdx?_eq_none_iff]at h
   simp only[Option.bind_none]
   exact(List.find?_eq_none.2 (fun x hx=>by simp[h x hx])).symm
 |some i=>
   obtain⟨hi,hp,hf⟩:=List.findIdx?_eq_some_iff_getElem.1 h
   simp only[Option.bind_some,B3 hi]
   exact(List.find?_eq_some_iff_getElem.2 ⟨hp,i,hi,rfl,fun j hj=>by simpa using hf j hj⟩).symm
theorem J1(f:AZ)(at_:A9):(F9 f at_= -1∧Bl f at_=none)∨
    ∃(k i:Nat) (d:Dvc) (n:Nod),at_.1=k∧f[k]?=some d∧d.nodes[i]?=some n∧n.ino=at_.2∧F9 f at_=i∧Bl f at_=some n:=by
 unfold F9 Bl
 cases h:EG f at_.1 with
 |none=>exact .inl ⟨rfl,rfl⟩
 |some d=>
   obtain⟨h0,h1,h2⟩:=Xr h
   simp only[←Sr]
   unfold K8
   cases hi:d.nodes.findIdx? (fun n:Nod=>n.ino==at_.2)with
   |none=>exact .inl ⟨rfl,rfl⟩
   |some i=>
     obtain⟨hl,hp,_⟩:=List.findIdx?_eq_some_iff_getElem.1 hi
     exact .inr ⟨at_.1.toNat,i,d,d.nodes[i],by omega,h2,B3 hl,by simpa using hp,rfl,by simp⟩
theorem Nt(a b:AG):(a.toList==b.toList)=decide (a=b):=by
 rw[ByteArray.toList_eq,ByteArray.toList_eq,Bool.eq_iff_iff]
 simp only[beq_iff_eq,decide_eq_true_eq]
 constructor
 ·intro h
  cases a with
  |mk a=>
    cases b with
    |mk b=>exact congrArg ByteArray.mk (Array.toList_inj.1 h)
 intro h
 rw[h]
def J2(c:UInt8):Bool:= !((c.toNat:Int)==0)&& !((c.toNat:Int)==47)
def DV(s:AG):Bool:=
 if s.size<1∨12<s.size then false else if(s.toList==[46])=true then false else if(s.toList==[46,46])=true then false else s.data.toList.all J2
def KA(s:AG):Bool:=s.data.toList.all (fun c=> !((c.toNat:Int)==0))&&decide (1≤s.size)&&decide (s.size≤128)
theorem Ss{p:UInt8→Bool}{s:AG}(h:∀j (hj:j<s.size),p s[j]=true):s.data.toList.all p=true:=by
 rw[List.all_eq_true]
 intro c hc
 obtain⟨j,hj,rfl⟩:=List.mem_iff_getElem.1 hc
 exact h j (by simpa using hj)
theorem Pa{p:UInt8→Bool}{s:AG}{j:Nat}(hj:j<s.size)(h:p s[j]=false):s.data.toList.all p=false:=by
 rw[List.all_eq_false]
 refine⟨s[j],?_,by simp[h]⟩
 have:s[j]=s.data.toList[j]'(by simpa using hj):=rfl
 rw[this]
 exact List.getElem_mem _
theorem Su{p:UInt8→Bool}{s:AG}{m:Nat}(hm:m<s.size)(h:∀j (hj:j<s.size),j<m→p s[j]=true)(hp:p s[m]=true):∀j (hj:j<s.size),j<m+1→p s[j]=true:=by
 intro j hj hlt
 by_cases e:j=m
 ·subst e;exact hp
 exact h j hj (by omega)
def AY(f:AZ)(at_:A9):Bool:=
 match Bl f at_ with
 |none=>false
 |some n=>n.kind==2
def CH(f:AZ)(dir:A9)(name:AG):Int:=
 match Bl f dir with
 |none=>2
 |some n=>if n.kind=2 then(if DV name then 0 else 22)else 20
def J3(f:AZ)(dir:A9):Bool:=
 match Bl f dir with
 |none=>false
 |some n=>decide (12≤n.entries.length)
def JY(f:AZ)(dir:A9):Bool:=
 match Bl f dir with
 |none=>true
 |some n=>decide (n.entries.length=0)
def AM(f:AZ)(dir:A9)(name:AG):A9×Int:=
 match Bl f dir with
 |none=>((0,0),2)
 |some n=>if n.kind=2 then
     match n.entries.find? (fun e:BL=>decide (e.1=name))with
     |none=>((0,0),2)
     |some e=>((dir.1,e.2),0)
   else((0,0),20)
def Es(n:Nod):Bool:=
 if n.kind<1∨3<n.kind∨n.mode<0∨511<n.mode∨n.uid<0∨4294967295<n.uid∨n.gid<0∨4294967295<n.gid then false
 else if n.kind=3 then KA n.target else n.target.toList.isEmpty
end Go.Proofs.YtbglbmnhgbgelaaGreatDoor
namespace Go.Proofs.YtbglbmnhgbgelaaGreatDoor
def Et(a b:AG):Bool:=Op.bytesLess a.toList b.toList
def FX(name:AG)(ino:Int):Bool→List BL→List BL
 |done,[]=>if done then[]else[(name,ino)]
 |done,e::r=>
   (if !done&& !Et e.1 name then[(name,ino)]else[])++((if e.1=name then[]else[e])++FX name ino (done|| !Et e.1 name) r)
def Cc(es:List BL)(name:AG)(ino:Int):List BL:=FX name ino (ino==0) es
def Ci(ino:Int)(es:List BL):Nat:=es.countP fun e:BL=>e.2==ino
def Bd(ino:Int)(ns:List Nod):Nat:=Ci ino (ns.flatMap fun n=>n.entries)
def GM(f:AZ)(at_:A9):Nat:=
 match Bl f at_,EG f at_.1 with
 |some _,some d=>Bd at_.2 d.nodes
 |_,_=>0
theorem Pb{ino:Int}{es:List BL}{k:Nat}{e:BL}(h:es[k]?=some e):Ci ino (es.take (k+1))=Ci ino (es.take k)+(if e.2==ino then 1 else 0):=by
 unfold Ci
 rw[List.take_add_one,h,List.countP_append]
 simp[List.countP_cons]
theorem Xt(ino:Int)(es:List BL):Ci ino es≤es.length:=List.countP_le_length
theorem Xu{ino:Int}{ns:List Nod}{m:Nat}{n:Nod}(h:ns[m]?=some n):Bd ino (ns.take (m+1))=Bd ino (ns.take m)+Ci ino n.entries:=by
 unfold Bd Ci
 rw[List.take_add_one,h,List.flatMap_append,List.countP_append]
 simp
def Cj(ino:Int)(ns:List Nod):List Nod:=ns.filter fun n=>n.ino != ino
def Nu:Nod:=⟨1,2,493,0,0,1,⟨#[]⟩,[]⟩
def Ks:Dvc:=⟨2,[Nu]⟩
def EU(n:Int):AZ×Int:=if n<1∨3<n then([],50)else(List.replicate n.toNat Ks,0)
abbrev DR:=AZ×List Dm×Int
def EV(n:Nod)(next dirIno:Int):Nod:=⟨next,n.kind,n.mode,n.uid,n.gid,if n.kind=2 then dirIno else 0,n.target,[]⟩
end Go.Proofs.YtbglbmnhgbgelaaGreatDoor
namespace Go.Proofs.YtbglbmnhgbgelaaGreatDoor
open Go.RowKit
theorem CZ{α:Type}(enc:α→List AV){l:List α}{k:Nat}(h:(k:Int)<((l.map enc).length:Int)):k<l.length∧∃x,l[k]?=some x∧(l.map enc)[k]?=some (enc x)∧(l.take (k+1)).map enc=(l.take k).map enc++[enc x]:=by
 have hk:k<l.length:=by simpa using h
 refine⟨hk,l[k],B3 hk,by simp[hk],?_⟩
 rw[List.take_succ_eq_append_getElem hk,List.map_append]
 rfl
theorem Ck{α:Type}(enc:α→List AV){l:List α}{k:Nat}(hk:k≤l.length)(h:¬(k:Int)<((l.map enc).length:Int)):k=l.length:=by
 simp at h
 omega
theorem vb{a b:Bool}(h:a=b):AV.v (.bool a)=AV.v (.bool b):=by rw[h]
theorem vi{k:IntKind}{a b:Int}(h:a=b):AV.v (.int k a)=AV.v (.int k b):=by rw[h]
def AA(x:A9):List AV:=[.v (.int .i64 x.1), .v (.int .i64 x.2)]
def CX(e:BL):List AV:=[.v (.string e.1), .v (.int .i64 e.2)]
def Aj(n:Nod):List AV:=[.v (.int .i64 n.ino), .v (.int .i64 n.kind), .v (.int .i64 n.mode), .v (.int .i64 n.uid), .v (.int .i64 n.gid), .v (.int .i64 n.parent), .v (.string n.target), .sl 2 (n.entries.map CX) none]
def Bx(d:Dvc):List AV:=[.v (.int .i64 d.next), .sl 8 (d.nodes.map Aj) none]
def At(f:AZ):List AV:=[.sl 2 (f.map Bx) none]
structure FlsB(f:AZ):Prop where
 few:f.length≤1000
 nodes:∀d∈f,d.nodes.length≤1000
 ents:∀d∈f,∀n∈d.nodes,n.entries.length≤1000
theorem Pc{f:AZ}{a:A9}{k:Nat}{d:Dvc}(hk:a.1=(k:Int))(hd:f[k]?=some d):F9 f a=K8 (fun n:Nod=>n.ino==a.2) d.nodes:=by
 unfold F9;rw[hk,K9,hd]
def Aa(f:AZ)(a:A9):Nod:=(Bl f a).getD Nod.zero
def D0(f:AZ)(a:A9):Bool:=(Bl f a).isSome
theorem Fv(f:AZ)(a:A9):AY f a=(D0 f a&&decide ((Aa f a).kind=2)):=by
 unfold AY D0 Aa
 cases Bl f a<;>simp[PC]
theorem M5{f:AZ}(hf:FlsB f)(a:A9):(Aa f a).entries.length≤1000:=by
 rcases J1 f a with⟨-,h⟩|⟨k,i,d,n, -,h1,h2, -, -,h⟩
 ·simp[Aa,h,Nod.zero]
 simp only[Aa,h,Option.getD_some]
 exact hf.ents d (Au h1) n (Au h2)
section
theorem JZ(f:AZ)(a:A9)(hf:FlsB f):AFn Tryz.prog 78 [.agg (At f), .agg (AA a)] (fun r=>r= .v (.int .i64 (F9 f a))):=by
 refine enter Tryz.func78 rfl rfl rfl rfl rfl 0 rfl ?_
 refine w_ (b_ (h:=b_ (h:=a_ (h:=e_ (q_ (w_ (f_ (h:=l_ (h:=BG (h:=m_ (h:=?_)))))))))))
 refine Ay false rfl rfl (fun hb1=>?_) (fun hb1=>?_)
 ·have hc1:=bp hb1
  refine A3 (h:=A3 (h:=A3 (h:=A3 (h:=A3 (h:=A3 (h:=Af (h:=e_ (Bm (h:=w_ (a_ (h:=e_ (A4 (A7 (?_))))))))))))))
  refine AB ?_
  exact vi (by unfold F9;rw[Ns (.inl hc1)])
 have hc1:=bp hb1
 refine f_ (h:=l_ (h:=f_ (h:=l_ (h:=n_ (h:=Fu (h:=Ak (h:=e_ (?_))))))))
 refine A8 rfl (fun hb2=>?_) (fun hb2=>?_)
 ·have hc2:=bp hb2
  refine w_ (a_ (h:=e_ (A4 (A7 (?_)))))
  refine AB ?_
  exact vi (by unfold F9;rw[Ns (.inr (by rw[List.length_map]at hc2;exact hc2))])
 have hc2:=bp hb2
 obtain⟨k,hk⟩:=Int.eq_ofNat_of_zero_le (show 0≤a.1 by omega)
 rw[hk]at hc2
 obtain⟨-,d,hd,hrow, -⟩:=CZ Bx (l:=f) (k:=k) (by omega)
 have hdn:=hf.nodes d (Au hd)
 refine AJ (w_ (f_ (h:=l_ (h:=f_ (h:=l_ (h:=?_))))))
 refine A6 rfl (CF (n:=k) rfl rfl hk hrow ?_)
 refine f_ (h:=l_ (h:=a_ (h:=e_ (q_ (w_ (a_ (h:=e_ (Am (?_)))))))))
 refine Ba (fun m s=>∃j:Nat,j≤d.nodes.length∧m=d.nodes.length - j∧(∀i y,i<j→d.nodes[i]?=some y→(y.ino==a.2)=false)∧s=⟨look [(3, .bp 1 0),(5, .sl 8 (d.nodes.map Aj) none),(6, .v (.int .i64 (j:Int)))],⟨[At f,AA a],[]⟩⟩) (d.nodes.length) ((wk 2 0)) (⟨0,by omega,rfl,fun i y hi=>by omega,rfl⟩) ?_
 rintro m s ⟨j,hj,rfl,ha,rfl⟩
 refine q_ (w_ (m_ (h:=m_ (h:=n_ (h:=BG (h:=e_ (?_)))))))
 refine A8 rfl (fun hb3=>?_) (fun hb3=>?_)
 ·have hc3:=bp hb3
  obtain⟨hlt,n,hy,hrow2, -⟩:=CZ Aj hc3
  refine AJ (q_ (Am (q_ (DU 8 (h:=AN 0 (h:=AN 1 (h:=Dl 2 (h:=AE 3 (h:=AD 4 (h:=AE 5 (h:=AD 6 (h:=J0 7 (h:=z_ (h:=t_ (?_)))))))))))))))
  refine A8 rfl (fun hb4=>?_) (fun hb4=>?_)
  ·have hc4:=bp hb4
   refine w_ (m_ (h:=a_ (h:=e_ (A4 (AR (A7 (A7 (AR (A7 (?_))))))))))
   refine AB ?_
   exact vi (by rw[Pc hk hd];exact(Sq hy (by simpa using hc4) ha).symm)
  have hc4:=bp hb4
  refine BA (Ax (t_ (AP (m_ (h:=B8 (h:=a_ (h:=AO (?_))))))))
  refine AF ?_
  refine⟨_,_,?_,⟨j+1,by omega,rfl,E1 hy ha (by simpa using hc4),rfl⟩,(wk 2 0)⟩
  omega
 have hc3:=bp hb3
 have e:=Ck Aj hj hc3
 subst e
 refine BR (Aq (Aq (BS (t_ (w_ (a_ (h:=e_ (A4 (?_)))))))))
 refine AB ?_
 exact vi (by rw[Pc hk hd];exact(Xs (fun i y hi hy=>ha i y hi hy)).symm)
theorem Dn(f:AZ)(a:A9)(hf:FlsB f):AFn Tryz.prog 70 [.agg (At f), .agg (AA a)] (fun r=>r= .tup [.agg (Aj (Aa f a)), .v (.bool (D0 f a))]):=by
 refine enter Tryz.func70 rfl rfl rfl rfl rfl 0 rfl ?_
 refine w_ (b_ (h:=b_ (h:=AW (h:=a_ (h:=e_ (w_ (l_ (h:=l_ (h:=?_)))))))))
 refine A6 rfl (AK (JZ f a hf) ?_)
 rintro r rfl
 refine a_ (h:=e_ (q_ (w_ (m_ (h:=BG (h:=e_ (?_)))))))
 refine A8 rfl (fun hb1=>?_) (fun hb1=>?_)
 ·have hc1:=bp hb1
  have e:Bl f a=none:=by
   rcases J1 f a with h|⟨k,i,d,n, -, -, -, -,h, -⟩
   ·exact h.2
   exfalso;omega
  refine w_ (AT (h:=s_ (h:=a_ (h:=e_ (A4 (A7 (?_)))))))
  refine Ai (r:= .tup [.agg (Aj (Aa f a)), .v (.bool (D0 f a))]) none (h5:=?_) (h6:=⟨rfl,rfl,rfl⟩)
  rw[show Aa f a=Nod.zero by simp[Aa,e],show D0 f a=false by simp[D0,e]]
  exact(by repeat (first|exact LeA.refl _|exact LeA.nil _|exact LeL.refl _|refine LeA.agg ?_|refine LeA.tup ?_|exact LeL.nil|refine LeL.cons ?_ ?_|exact LeA.any _))
 have hc1:=bp hb1
 obtain⟨k,i,d,n,g1,g2,g3,g4,g5,g6⟩:=(J1 f a).resolve_left (fun h=>by omega)
 rw[g5]
 have hr1:(f.map Bx)[k]?=some (Bx d):=by rw[List.getElem?_map,g2];rfl
 have hr2:(d.nodes.map Aj)[i]?=some (Aj n):=by rw[List.getElem?_map,g3];rfl
 have hen:=hf.ents d (Au g2) n (Au g3)
 refine AJ (w_ (f_ (h:=l_ (h:=f_ (h:=l_ (h:=?_))))))
 refine A6 rfl (CF (n:=k) rfl rfl g1 hr1 ?_)
 refine f_ (h:=l_ (h:=m_ (h:=?_)))
 refine A6 rfl (CF (n:=i) rfl rfl rfl hr2 ?_)
 refine l_ (h:=AW (h:=s_ (h:=e_ (w_ (f_ (h:=l_ (h:=?_)))))))
 first|refine A6 rfl (Dz rfl rfl rfl (by simp;omega) (by repeat constructor) ?_)|refine A6 rfl (Hw rfl rfl (by simp;omega) (by repeat constructor) ?_)
 refine f_ (h:=s_ (h:=e_ (w_ (l_ (h:=s_ (h:=a_ (h:=e_ (A4 (?_)))))))))
 refine AB ?_
 rw[show Aa f a=n by simp[Aa,g6],show D0 f a=true by simp[D0,g6]]
 rfl
theorem Gl(f:AZ)(a:A9)(hf:FlsB f):AFn Tryz.prog 41 [.agg (At f), .agg (AA a)] (fun r=>r= .v (.bool (AY f a))):=by
 refine enter Tryz.func41 rfl rfl rfl rfl rfl 0 rfl ?_
 refine w_ (b_ (h:=b_ (h:=a_ (h:=e_ (w_ (l_ (h:=l_ (h:=?_))))))))
 refine A6 rfl (AK (Dn f a hf) ?_)
 rintro r rfl
 refine m_ (h:=x_ (h:=x_ (h:=AW (h:=s_ (h:=a_ (h:=e_ (w_ (m_ (h:=m_ (h:=?_))))))))))
 refine Ay true rfl rfl (fun hb1=>?_) (fun hb1=>?_)
 ·have hc1:=bp hb1
  refine f_ (h:=l_ (h:=AQ (h:=Af (h:=a_ (h:=e_ (A4 (?_)))))))
  refine AB ?_
  exact vb (by rw[Fv];simp[*])
 have hc1:=bp hb1
 refine A3 (h:=A3 (h:=A3 (h:=Ak (h:=a_ (h:=e_ (A4 (?_)))))))
 refine AB ?_
 exact vb (by rw[Fv];simp[*])
end
theorem HU{α:Type}{p:α→Bool}{l:List α}{j:Nat}{x:α}(hx:l[j]?=some x)(hp:p x=true)(h:∀i y,i<j→l[i]?=some y→p y=false):l.find? p=some x:=by
 have:=So hx hp h
 rw[←Sr,this]
 simpa using hx
theorem Ha{α:Type}{p:α→Bool}{l:List α}(h:∀i y,i<l.length→l[i]?=some y→p y=false):l.find? p=none:=by
 rw[List.find?_eq_none]
 intro x hx
 obtain⟨i,hi,rfl⟩:=List.mem_iff_getElem.1 hx
 simp[h i _ hi (B3 hi)]
theorem Sv{f:AZ}{a:A9}(h:D0 f a=true):Bl f a=some (Aa f a):=by
 unfold D0 at h
 unfold Aa
 cases hn:Bl f a with
 |none=>rw[hn]at h;cases h
 |some n=>rfl
theorem Sw{f:AZ}{a:A9}(h:D0 f a=false):Bl f a=none:=by
 unfold D0 at h
 cases hn:Bl f a with
 |none=>rfl
 |some n=>rw[hn]at h;cases h
section
theorem Gm(f:AZ)(a:A9)(name:AG)(hf:FlsB f):AFn Tryz.prog 38 [.agg (At f), .agg (AA a), .v (.string name)] (fun r=>r= .tup [.agg (AA (AM f a name).1), .v (.int .i64 (AM f a name).2)]):=by
 have hen:=M5 hf a
 refine enter Tryz.func38 rfl rfl rfl rfl rfl 0 rfl ?_
 refine w_ (b_ (h:=b_ (h:=AW (h:=a_ (h:=e_ (w_ (l_ (h:=l_ (h:=?_)))))))))
 refine A6 rfl (AK (Dn f a hf) ?_)
 rintro r rfl
 refine m_ (h:=x_ (h:=x_ (h:=AW (h:=s_ (h:=a_ (h:=e_ (q_ (w_ (m_ (h:=BC (h:=e_ (?_))))))))))))
 refine A8 rfl (fun hb1=>?_) (fun hb1=>?_)
 ·have hc1:=bp hb1
  have e:=Sw hc1
  refine w_ (AT (h:=s_ (h:=a_ (h:=e_ (A4 (A7 (?_)))))))
  refine AB ?_
  rw[show AM f a name=((0,0),2) by simp[AM,e]]
  rfl
 have hc1:=bp hb1
 have e:=Sv hc1
 refine AJ (q_ (w_ (f_ (h:=l_ (h:=BK (h:=e_ (?_)))))))
 refine A8 rfl (fun hb2=>?_) (fun hb2=>?_)
 ·have hc2:=bp hb2
  refine w_ (AT (h:=s_ (h:=a_ (h:=e_ (A4 (A7 (?_)))))))
  refine AB ?_
  rw[show AM f a name=((0,0),20) by simp[AM,e,hc2]]
  rfl
 have hc2:=bp hb2
 refine AJ (q_ (w_ (a_ (h:=e_ (Am (?_))))))
 refine Ba (fun m s=>∃j:Nat,j≤(Aa f a).entries.length∧m=(Aa f a).entries.length - j∧(∀i y,i<j→(Aa f a).entries[i]?=some y→decide (y.1=name)=false)∧s=⟨look [(2, .v (.string name)),(4, .bp 1 0),(6, .bp 2 0),(8, .bp 3 0),(10, .v (.int .i64 (j:Int)))],⟨[At f,AA a,[.v (.int .i64 0), .v (.int .i64 0)],Aj (Aa f a)],[]⟩⟩) ((Aa f a).entries.length) ((wk 4 0)) (⟨0,by omega,rfl,fun i y hi=>by omega,rfl⟩) ?_
 rintro m s ⟨j,hj,rfl,ha,rfl⟩
 refine q_ (w_ (m_ (h:=f_ (h:=l_ (h:=n_ (h:=BG (h:=e_ (?_))))))))
 refine A8 rfl (fun hb3=>?_) (fun hb3=>?_)
 ·have hc3:=bp hb3
  obtain⟨hlt,x,hy,hrow, -⟩:=CZ CX hc3
  refine AJ (q_ (Am (w_ (f_ (h:=l_ (h:=m_ (h:=i_ (h:=f_ (h:=l_ (h:=m_ (h:=AQ (h:=e_ (?_)))))))))))))
  refine A8 rfl (fun hb4=>?_) (fun hb4=>?_)
  ·have hc4:=bp hb4
   refine q_ (BF ([(0,At f),(1,AA a),(3,Aj (Aa f a))]) 11 (h:=AE 0 (h:=AD 1 (h:=AE 2 (h:=AD 3 (h:=AN 4 (h:=Dl 5 (h:=AE 6 (h:=AD 7 (h:=Gk 8 (h:=?_)))))))))))
   refine Az 9 rfl (Aw rfl rfl rfl rfl rfl rfl (by repeat constructor) (by repeat constructor) ?_)
   refine o_ (h:=BB 10 (h:=z_ (h:=t_ (A4 (AR (A7 (A7 (AR (A7 (?_))))))))))
   refine AB ?_
   rw[show AM f a name=((a.1,x.2),0) by simp only[AM,e];rw[if_pos (by omega),HU hy (by simpa using hc4) ha]]
   rfl
  have hc4:=bp hb4
  refine BA (Ax (t_ (AP (m_ (h:=B8 (h:=a_ (h:=AO (?_))))))))
  refine AF ?_
  refine⟨_,_,?_,⟨j+1,by omega,rfl,E1 hy ha (by simpa using hc4),rfl⟩,(wk 4 0)⟩
  omega
 have hc3:=bp hb3
 have e3:=Ck CX hj hc3
 subst e3
 refine BR (Aq (Aq (BS (t_ (w_ (AT (h:=s_ (h:=a_ (h:=e_ (A4 (?_)))))))))))
 refine AB ?_
 rw[show AM f a name=((0,0),2) by simp only[AM,e];rw[if_pos (by omega),Ha ha]]
 rfl
end
theorem J4{P:Program}{ev:Operand→Option AV}{h:AH}{R:AV→AH→Prop}{d:Option Tmp}{ty:TypeId}{pos:String}{af:Array Edge}{gd:Option (Nat×Bool)}{T:TypeId}{x ix:Operand}{s:ByteArray}{n:Nat}{k:IntKind}{i:Int}(hu:P.underlying T=some .string)
    (hx:ev x=some (.v (.string s))) (hi:ev ix=some (.v (.int k i))) (hn:i=(n:Int)) (hlt:n<s.size) (hR:R (.v (.int .u8 (s[n].toNat:Int))) h):AStep P ⟨d, .index T x ix,ty,pos,af,gd⟩ ev h R:=by
 refine D4 (fun _ G w ec _ he=>?_) hR
 have h1:=he x (by simp[Op.operands]) _ hx
 have h2:=he ix (by simp[Op.operands]) _ hi
 simp only[rep]at h1 h2
 subst hn
 refine⟨.int .u8 (s[n].toNat:Int),?_,by simp only[rep]⟩
 have e:s[n]?=some s[n]:=getElem?_pos s n hlt
 simp[execOp,h1,h2,Instr.index,asIntOf,run_underlying hu,e]
theorem Ja(s:AG):DV s=if s.size<1∨12<s.size then false else if s=⟨#[46]⟩then false else if s=⟨#[46,46]⟩then false else s.data.toList.all J2:=by
 unfold DV
 have e1:=Nt s ⟨#[46]⟩
 have e2:=Nt s ⟨#[46,46]⟩
 rw[show(⟨#[46]⟩:ByteArray).toList=[46] by rw[ByteArray.toList_eq]]at e1
 rw[show(⟨#[46,46]⟩:ByteArray).toList=[46,46] by rw[ByteArray.toList_eq]]at e2
 rw[e1,e2]
 simp only[decide_eq_true_eq]
theorem Xv{c:UInt8}(h1:¬(c.toNat:Int)=0)(h2:¬(c.toNat:Int)=47):J2 c=true:=by
 unfold J2;simp;omega
section
theorem Pd(s:AG)(hs:s.size≤100000):AFn Tryz.prog 61 [.v (.string s)] (fun r=>r= .v (.bool (DV s))):=by
 refine enter Tryz.func61 rfl rfl rfl rfl rfl 0 rfl ?_
 refine w_ (a_ (h:=e_ (q_ (w_ (m_ (h:=n_ (h:=BG (h:=m_ (h:=?_)))))))))
 refine Ay false rfl rfl (fun hb1=>?_) (fun hb1=>?_)
 ·have hc1:=bp hb1
  refine A3 (h:=A3 (h:=A3 (h:=Af (h:=m_ (h:=A3 (h:=A3 (h:=Af (h:=m_ (h:=A3 (h:=A3 (h:=Af (h:=e_ (Bm (h:=w_ (a_ (h:=e_ (A4 (A7 (?_)))))))))))))))))))
  refine AB ?_
  exact vb (by rw[Ja,if_pos (by omega)])
 have hc1:=bp hb1
 refine m_ (h:=n_ (h:=CW (h:=Ak (h:=m_ (h:=?_)))))
 refine Ay false rfl rfl (fun hb2=>?_) (fun hb2=>?_)
 ·have hc2:=bp hb2
  refine A3 (h:=A3 (h:=Af (h:=m_ (h:=A3 (h:=A3 (h:=Af (h:=e_ (Bm (h:=w_ (a_ (h:=e_ (A4 (A7 (?_))))))))))))))
  refine AB ?_
  exact vb (by rw[Ja,if_pos (by omega)])
 have hc2:=bp hb2
 refine m_ (h:=AQ (h:=Ak (h:=m_ (h:=?_))))
 refine Ay false rfl rfl (fun hb3=>?_) (fun hb3=>?_)
 ·have hc3:=bp hb3
  refine A3 (h:=A3 (h:=Af (h:=e_ (Bm (h:=w_ (a_ (h:=e_ (A4 (A7 (?_))))))))))
  refine AB ?_
  exact vb (by rw[Ja,if_neg (by omega),if_pos hc3])
 have hc3:=bp hb3
 refine m_ (h:=AQ (h:=Ak (h:=e_ (?_))))
 refine A8 rfl (fun hb4=>?_) (fun hb4=>?_)
 ·have hc4:=bp hb4
  refine w_ (a_ (h:=e_ (A4 (A7 (?_)))))
  refine AB ?_
  exact vb (by rw[Ja,if_neg (by omega),if_neg hc3,if_pos hc4])
 have hc4:=bp hb4
 refine AJ (q_ (w_ (a_ (h:=e_ (Am (?_))))))
 refine Ba (fun m t=>∃j:Nat,j≤s.size∧m=s.size - j∧(∀i (hi:i<s.size),i<j→J2 s[i]=true)∧t=⟨look [(0, .v (.string s)),(3, .v (.int .i64 (j:Int)))],⟨[],[]⟩⟩) (s.size) ((wk 0 0)) (⟨0,by omega,rfl,fun i _ hi=>by omega,rfl⟩) ?_
 rintro m t ⟨j,hj,rfl,ha,rfl⟩
 refine q_ (w_ (m_ (h:=m_ (h:=n_ (h:=BG (h:=e_ (?_)))))))
 refine A8 rfl (fun hb5=>?_) (fun hb5=>?_)
 ·have hc5:=bp hb5
  have hlt:j<s.size:=by omega
  refine AJ (q_ (Am (w_ (m_ (h:=m_ (h:=?_))))))
  refine A6 rfl (J4 (n:=j) Tryz.underlying9 rfl rfl rfl hlt ?_)
  refine AQ (h:=m_ (h:=?_))
  refine Ay false rfl rfl (fun hb6=>?_) (fun hb6=>?_)
  ·have hc6:=bp hb6
   refine A3 (h:=A3 (h:=A3 (h:=A3 (h:=Af (h:=e_ (Bm (h:=w_ (a_ (h:=e_ (A4 (AR (A7 (A7 (AR (A7 (?_))))))))))))))))
   refine AB ?_
   exact vb (by rw[Ja,if_neg (by omega),if_neg hc3,if_neg hc4,Pa hlt (by unfold J2;simp[hc6])])
  have hc6:=bp hb6
  refine m_ (h:=m_ (h:=?_))
  refine B4 (J4 (n:=j) Tryz.underlying9 rfl rfl rfl hlt ?_)
  refine AQ (h:=Ak (h:=e_ (?_)))
  refine A8 rfl (fun hb7=>?_) (fun hb7=>?_)
  ·have hc7:=bp hb7
   refine w_ (a_ (h:=e_ (A4 (AR (A7 (A7 (AR (A7 (?_)))))))))
   refine AB ?_
   exact vb (by rw[Ja,if_neg (by omega),if_neg hc3,if_neg hc4,Pa hlt (by unfold J2;simp[hc7])])
  have hc7:=bp hb7
  refine BA (Ax (t_ (AP (m_ (h:=B8 (h:=a_ (h:=AO (?_))))))))
  refine AF ?_
  refine⟨_,_,?_,⟨j+1,by omega,rfl,Su hlt ha (Xv hc6 hc7),rfl⟩,(wk 0 0)⟩
  omega
 have hc5:=bp hb5
 obtain rfl:j=s.size:=by omega
 refine BR (Aq (Aq (BS (t_ (w_ (a_ (h:=e_ (A4 (?_)))))))))
 refine AB ?_
 exact vb (by rw[Ja,if_neg (by omega),if_neg hc3,if_neg hc4,Ss (fun i hi=>ha i hi hi)])
end
theorem Xw(f:AZ)(a:A9):J3 f a=decide (12≤(Aa f a).entries.length):=by
 unfold J3 Aa
 cases Bl f a<;>simp[Nod.zero]
theorem Xx(f:AZ)(a:A9):JY f a=decide ((Aa f a).entries.length=0):=by
 unfold JY Aa
 cases Bl f a<;>simp[Nod.zero]
theorem Xy{f:AZ}{a:A9}{k:Nat}{d:Dvc}{n:Nod}(hk:a.1=(k:Int))(hd:f[k]?=some d)(hn:Bl f a=some n):GM f a=Bd a.2 d.nodes:=by
 unfold GM
 rw[hn,hk,K9,hd]
section
theorem Xz(s:AG)(hs:s.size≤100000):AFn Tryz.prog 125 [.v (.string s)] (fun r=>r= .v (.bool (KA s))):=by
 refine enter Tryz.func125 rfl rfl rfl rfl rfl 0 rfl ?_
 refine w_ (a_ (h:=e_ (q_ (w_ (a_ (h:=e_ (Am (?_))))))))
 refine Ba (fun m t=>∃j:Nat,j≤s.size∧m=s.size - j∧(∀i (hi:i<s.size),i<j→(!((s[i].toNat:Int)==0))=true)∧t=⟨look [(0, .v (.string s)),(3, .v (.int .i64 (j:Int)))],⟨[],[]⟩⟩) (s.size) ((wk 0 0)) (⟨0,by omega,rfl,fun i _ hi=>by omega,rfl⟩) ?_
 rintro m t ⟨j,hj,rfl,ha,rfl⟩
 refine q_ (w_ (m_ (h:=m_ (h:=n_ (h:=BG (h:=e_ (?_)))))))
 refine A8 rfl (fun hb1=>?_) (fun hb1=>?_)
 ·have hc1:=bp hb1
  have hlt:j<s.size:=by omega
  refine AJ (q_ (Am (w_ (m_ (h:=m_ (h:=?_))))))
  refine A6 rfl (J4 (n:=j) Tryz.underlying9 rfl rfl rfl hlt ?_)
  refine AQ (h:=e_ (?_))
  refine A8 rfl (fun hb2=>?_) (fun hb2=>?_)
  ·have hc2:=bp hb2
   refine w_ (a_ (h:=e_ (A4 (AR (A7 (A7 (AR (A7 (?_)))))))))
   refine AB ?_
   exact vb (by unfold KA;rw[Pa hlt (by simp[hc2])];simp)
  have hc2:=bp hb2
  refine BA (Ax (t_ (AP (m_ (h:=B8 (h:=a_ (h:=AO (?_))))))))
  refine AF ?_
  refine⟨_,_,?_,⟨j+1,by omega,rfl,Su (p:=fun c=> !((c.toNat:Int)==0)) hlt ha (by simpa using hc2),rfl⟩,(wk 0 0)⟩
  omega
 have hc1:=bp hb1
 obtain rfl:j=s.size:=by omega
 have hal:=Ss (p:=fun c=> !((c.toNat:Int)==0)) (fun i hi=>ha i hi hi)
 refine BR (Aq (Aq (BS (t_ (w_ (m_ (h:=n_ (h:=Fu (h:=m_ (h:=?_))))))))))
 refine Ay true rfl rfl (fun hb3=>?_) (fun hb3=>?_)
 ·have hc3:=bp hb3
  refine m_ (h:=n_ (h:=M4 (h:=Af (h:=a_ (h:=e_ (A4 (?_)))))))
  refine AB ?_
  exact vb (by unfold KA;rw[hal,Bool.eq_iff_iff];simp;omega)
 have hc3:=bp hb3
 refine A3 (h:=A3 (h:=A3 (h:=Ak (h:=a_ (h:=e_ (A4 (?_)))))))
 refine AB ?_
 exact vb (by unfold KA;rw[hal,Bool.eq_iff_iff];simp;omega)
theorem Kt(f:AZ)(a:A9)(name:AG)(hf:FlsB f)(hs:name.size≤100000):AFn Tryz.prog 71 [.agg (At f), .agg (AA a), .v (.string name)] (fun r=>r= .v (.int .i64 (CH f a name))):=by
 refine enter Tryz.func71 rfl rfl rfl rfl rfl 0 rfl ?_
 refine w_ (b_ (h:=b_ (h:=a_ (h:=e_ (w_ (l_ (h:=l_ (h:=?_))))))))
 refine A6 rfl (AK (Dn f a hf) ?_)
 rintro r rfl
 refine m_ (h:=x_ (h:=x_ (h:=AW (h:=s_ (h:=a_ (h:=e_ (q_ (w_ (m_ (h:=BC (h:=e_ (?_))))))))))))
 refine A8 rfl (fun hb1=>?_) (fun hb1=>?_)
 ·have hc1:=bp hb1
  have e:=Sw hc1
  refine w_ (a_ (h:=e_ (A4 (A7 (?_)))))
  refine AB ?_
  exact vi (by simp[CH,e])
 have hc1:=bp hb1
 have e:=Sv hc1
 refine AJ (q_ (w_ (f_ (h:=l_ (h:=BK (h:=e_ (?_)))))))
 refine A8 rfl (fun hb2=>?_) (fun hb2=>?_)
 ·have hc2:=bp hb2
  refine w_ (a_ (h:=e_ (A4 (A7 (?_)))))
  refine AB ?_
  exact vi (by simp[CH,e,hc2])
 have hc2:=bp hb2
 refine AJ (q_ (w_ (m_ (h:=?_))))
 refine A6 rfl (AK (Pd name hs) ?_)
 rintro r rfl
 refine BC (h:=e_ (?_))
 refine A8 rfl (fun hb3=>?_) (fun hb3=>?_)
 ·have hc3:=bp hb3
  refine w_ (a_ (h:=e_ (A4 (A7 (?_)))))
  refine AB ?_
  exact vi (by simp only[CH,e];rw[if_pos (by omega),hc3];rfl)
 have hc3:=bp hb3
 refine AJ (w_ (a_ (h:=e_ (A4 (?_)))))
 refine AB ?_
 exact vi (by simp only[CH,e];rw[if_pos (by omega),hc3];rfl)
theorem Pe(f:AZ)(a:A9)(hf:FlsB f):AFn Tryz.prog 75 [.agg (At f), .agg (AA a)] (fun r=>r= .v (.bool (J3 f a))):=by
 refine enter Tryz.func75 rfl rfl rfl rfl rfl 0 rfl ?_
 refine w_ (b_ (h:=b_ (h:=a_ (h:=e_ (w_ (l_ (h:=l_ (h:=?_))))))))
 refine A6 rfl (AK (Dn f a hf) ?_)
 rintro r rfl
 refine m_ (h:=x_ (h:=x_ (h:=AW (h:=s_ (h:=a_ (h:=e_ (w_ (f_ (h:=l_ (h:=n_ (h:=Fu (h:=a_ (h:=e_ (A4 (?_)))))))))))))))
 refine AB ?_
 exact vb (by rw[Xw,Bool.eq_iff_iff];simp;omega)
theorem Sx(f:AZ)(a:A9)(hf:FlsB f):AFn Tryz.prog 74 [.agg (At f), .agg (AA a)] (fun r=>r= .v (.bool (JY f a))):=by
 refine enter Tryz.func74 rfl rfl rfl rfl rfl 0 rfl ?_
 refine w_ (b_ (h:=b_ (h:=a_ (h:=e_ (w_ (l_ (h:=l_ (h:=?_))))))))
 refine A6 rfl (AK (Dn f a hf) ?_)
 rintro r rfl
 refine m_ (h:=x_ (h:=x_ (h:=AW (h:=s_ (h:=a_ (h:=e_ (w_ (f_ (h:=l_ (h:=n_ (h:=AQ (h:=a_ (h:=e_ (A4 (?_)))))))))))))))
 refine AB ?_
 exact vb (by rw[Xx,Bool.eq_iff_iff];simp)
theorem Sy(n:Nod)(hs:n.target.size≤100000):AFn Tryz.prog 86 [.agg (Aj n)] (fun r=>r= .v (.bool (Es n))):=by
 have ee:n.target.toList.isEmpty=decide (n.target=⟨#[]⟩):=by
  rw[←Nt n.target ⟨#[]⟩,show(⟨#[]⟩:ByteArray).toList=[] by rw[ByteArray.toList_eq]]
  cases n.target.toList<;>rfl
 refine enter Tryz.func86 rfl rfl rfl rfl rfl 0 rfl ?_
 refine w_ (b_ (h:=a_ (h:=e_ (q_ (?_)))))
 refine JV (⟨look [(1, .bp 0 0),(40, .v (.bool (decide (n.kind<1∨3<n.kind∨n.mode<0∨511<n.mode∨n.uid<0∨4294967295<n.uid∨n.gid<0∨4294967295<n.gid))))],⟨[Aj n],[]⟩⟩) ?_ ?_
 ·skip
  refine AP (f_ (h:=l_ (h:=BG (h:=m_ (h:=?_)))))
  refine Ay false rfl rfl (fun hb1=>?_) (fun hb1=>?_)
  ·have hc1:=bp hb1
   refine A3 (h:=A3 (h:=A3 (h:=Af (h:=m_ (h:=A3 (h:=A3 (h:=A3 (h:=Af (h:=m_ (h:=A3 (h:=A3 (h:=A3 (h:=Af (h:=m_ (h:=A3 (h:=A3 (h:=A3 (h:=Af (h:=m_ (h:=A3 (h:=A3 (h:=A3 (h:=Af (h:=?_))))))))))))))))))))))))
   refine m_ (h:=A3 (h:=A3 (h:=A3 (h:=Af (h:=m_ (h:=A3 (h:=A3 (h:=A3 (h:=Af (h:=AO (?_)))))))))))
   refine AF ?_
   first|(exfalso;first|contradiction|omega)|exact B1 1 0 rfl rfl rfl rfl (by repeat (first|exact Sub.nil|refine Sub.cons _ _ _ rfl rfl ?_|refine Sub.any _ _ ?_|refine Sub.sl _ _ _ _ _ rfl ?_|refine Sub.slnil _ _ _ rfl ?_|(apply Sub.of;(focus exact rfl);(focus exact LeA.of_eq (vb (by rw[Bool.eq_iff_iff];simp;try omega)));(focus exact rfl))))
  have hc1:=bp hb1
  refine f_ (h:=l_ (h:=CW (h:=Ak (h:=m_ (h:=?_)))))
  refine Ay false rfl rfl (fun hb2=>?_) (fun hb2=>?_)
  ·have hc2:=bp hb2
   refine A3 (h:=A3 (h:=A3 (h:=Af (h:=m_ (h:=A3 (h:=A3 (h:=A3 (h:=Af (h:=m_ (h:=A3 (h:=A3 (h:=A3 (h:=Af (h:=m_ (h:=A3 (h:=A3 (h:=A3 (h:=Af (h:=m_ (h:=A3 (h:=A3 (h:=A3 (h:=Af (h:=?_))))))))))))))))))))))))
   refine m_ (h:=A3 (h:=A3 (h:=A3 (h:=Af (h:=AO (?_))))))
   refine AF ?_
   first|(exfalso;first|contradiction|omega)|exact B1 1 0 rfl rfl rfl rfl (by repeat (first|exact Sub.nil|refine Sub.cons _ _ _ rfl rfl ?_|refine Sub.any _ _ ?_|refine Sub.sl _ _ _ _ _ rfl ?_|refine Sub.slnil _ _ _ rfl ?_|(apply Sub.of;(focus exact rfl);(focus exact LeA.of_eq (vb (by rw[Bool.eq_iff_iff];simp;try omega)));(focus exact rfl))))
  have hc2:=bp hb2
  refine f_ (h:=l_ (h:=BG (h:=Ak (h:=m_ (h:=?_)))))
  refine Ay false rfl rfl (fun hb3=>?_) (fun hb3=>?_)
  ·have hc3:=bp hb3
   refine A3 (h:=A3 (h:=A3 (h:=Af (h:=m_ (h:=A3 (h:=A3 (h:=A3 (h:=Af (h:=m_ (h:=A3 (h:=A3 (h:=A3 (h:=Af (h:=m_ (h:=A3 (h:=A3 (h:=A3 (h:=Af (h:=m_ (h:=A3 (h:=A3 (h:=A3 (h:=Af (h:=?_))))))))))))))))))))))))
   refine AO (?_)
   refine AF ?_
   first|(exfalso;first|contradiction|omega)|exact B1 1 0 rfl rfl rfl rfl (by repeat (first|exact Sub.nil|refine Sub.cons _ _ _ rfl rfl ?_|refine Sub.any _ _ ?_|refine Sub.sl _ _ _ _ _ rfl ?_|refine Sub.slnil _ _ _ rfl ?_|(apply Sub.of;(focus exact rfl);(focus exact LeA.of_eq (vb (by rw[Bool.eq_iff_iff];simp;try omega)));(focus exact rfl))))
  have hc3:=bp hb3
  refine f_ (h:=l_ (h:=CW (h:=Ak (h:=m_ (h:=?_)))))
  refine Ay false rfl rfl (fun hb4=>?_) (fun hb4=>?_)
  ·have hc4:=bp hb4
   refine A3 (h:=A3 (h:=A3 (h:=Af (h:=m_ (h:=A3 (h:=A3 (h:=A3 (h:=Af (h:=m_ (h:=A3 (h:=A3 (h:=A3 (h:=Af (h:=m_ (h:=A3 (h:=A3 (h:=A3 (h:=Af (h:=AO (?_))))))))))))))))))))
   refine AF ?_
   first|(exfalso;first|contradiction|omega)|exact B1 1 0 rfl rfl rfl rfl (by repeat (first|exact Sub.nil|refine Sub.cons _ _ _ rfl rfl ?_|refine Sub.any _ _ ?_|refine Sub.sl _ _ _ _ _ rfl ?_|refine Sub.slnil _ _ _ rfl ?_|(apply Sub.of;(focus exact rfl);(focus exact LeA.of_eq (vb (by rw[Bool.eq_iff_iff];simp;try omega)));(focus exact rfl))))
  have hc4:=bp hb4
  refine f_ (h:=l_ (h:=BG (h:=Ak (h:=m_ (h:=?_)))))
  refine Ay false rfl rfl (fun hb5=>?_) (fun hb5=>?_)
  ·have hc5:=bp hb5
   refine A3 (h:=A3 (h:=A3 (h:=Af (h:=m_ (h:=A3 (h:=A3 (h:=A3 (h:=Af (h:=m_ (h:=A3 (h:=A3 (h:=A3 (h:=Af (h:=AO (?_)))))))))))))))
   refine AF ?_
   first|(exfalso;first|contradiction|omega)|exact B1 1 0 rfl rfl rfl rfl (by repeat (first|exact Sub.nil|refine Sub.cons _ _ _ rfl rfl ?_|refine Sub.any _ _ ?_|refine Sub.sl _ _ _ _ _ rfl ?_|refine Sub.slnil _ _ _ rfl ?_|(apply Sub.of;(focus exact rfl);(focus exact LeA.of_eq (vb (by rw[Bool.eq_iff_iff];simp;try omega)));(focus exact rfl))))
  have hc5:=bp hb5
  refine f_ (h:=l_ (h:=CW (h:=Ak (h:=m_ (h:=?_)))))
  refine Ay false rfl rfl (fun hb6=>?_) (fun hb6=>?_)
  ·have hc6:=bp hb6
   refine A3 (h:=A3 (h:=A3 (h:=Af (h:=m_ (h:=A3 (h:=A3 (h:=A3 (h:=Af (h:=AO (?_))))))))))
   refine AF ?_
   first|(exfalso;first|contradiction|omega)|exact B1 1 0 rfl rfl rfl rfl (by repeat (first|exact Sub.nil|refine Sub.cons _ _ _ rfl rfl ?_|refine Sub.any _ _ ?_|refine Sub.sl _ _ _ _ _ rfl ?_|refine Sub.slnil _ _ _ rfl ?_|(apply Sub.of;(focus exact rfl);(focus exact LeA.of_eq (vb (by rw[Bool.eq_iff_iff];simp;try omega)));(focus exact rfl))))
  have hc6:=bp hb6
  refine f_ (h:=l_ (h:=BG (h:=Ak (h:=m_ (h:=?_)))))
  refine Ay false rfl rfl (fun hb7=>?_) (fun hb7=>?_)
  ·have hc7:=bp hb7
   refine A3 (h:=A3 (h:=A3 (h:=Af (h:=AO (?_)))))
   refine AF ?_
   first|(exfalso;first|contradiction|omega)|exact B1 1 0 rfl rfl rfl rfl (by repeat (first|exact Sub.nil|refine Sub.cons _ _ _ rfl rfl ?_|refine Sub.any _ _ ?_|refine Sub.sl _ _ _ _ _ rfl ?_|refine Sub.slnil _ _ _ rfl ?_|(apply Sub.of;(focus exact rfl);(focus exact LeA.of_eq (vb (by rw[Bool.eq_iff_iff];simp;try omega)));(focus exact rfl))))
  have hc7:=bp hb7
  refine f_ (h:=l_ (h:=CW (h:=Ak (h:=AO (?_)))))
  refine AF ?_
  first|(exfalso;first|contradiction|omega)|exact B1 1 0 rfl rfl rfl rfl (by repeat (first|exact Sub.nil|refine Sub.cons _ _ _ rfl rfl ?_|refine Sub.any _ _ ?_|refine Sub.sl _ _ _ _ _ rfl ?_|refine Sub.slnil _ _ _ rfl ?_|(apply Sub.of;(focus exact rfl);(focus exact LeA.of_eq (vb (by rw[Bool.eq_iff_iff];simp;try omega)));(focus exact rfl))))
 skip
 refine A8 rfl (fun hb8=>?_) (fun hb8=>?_)
 ·have hc8:=bp hb8
  refine w_ (a_ (h:=e_ (A4 (A7 (?_)))))
  refine AB ?_
  exact vb (by rw[Es,if_pos hc8])
 have hc8:=bp hb8
 refine AJ (q_ (w_ (f_ (h:=l_ (h:=AQ (h:=e_ (?_)))))))
 refine A8 rfl (fun hb9=>?_) (fun hb9=>?_)
 ·have hc9:=bp hb9
  refine w_ (f_ (h:=l_ (h:=?_)))
  refine A6 rfl (AK (Xz n.target hs) ?_)
  rintro r rfl
  refine a_ (h:=e_ (A4 (A7 (?_))))
  refine AB ?_
  exact vb (by rw[Es,if_neg hc8,if_pos hc9])
 have hc9:=bp hb9
 refine AJ (w_ (f_ (h:=l_ (h:=AQ (h:=a_ (h:=e_ (A4 (?_))))))))
 refine AB ?_
 exact vb (by rw[Es,if_neg hc8,if_neg hc9,ee])
theorem Y0(f:AZ)(a:A9)(hf:FlsB f):AFn Tryz.prog 122 [.agg (At f), .agg (AA a)] (fun r=>r= .v (.int .i64 (GM f a:Int))):=by
 refine enter Tryz.func122 rfl rfl rfl rfl rfl 0 rfl ?_
 refine w_ (b_ (h:=b_ (h:=a_ (h:=e_ (q_ (w_ (l_ (h:=l_ (h:=?_)))))))))
 refine A6 rfl (AK (JZ f a hf) ?_)
 rintro r rfl
 refine BG (h:=e_ (?_))
 refine A8 rfl (fun hb1=>?_) (fun hb1=>?_)
 ·have hc1:=bp hb1
  have e:Bl f a=none:=by
   rcases J1 f a with h|⟨k,i,d,n, -, -, -, -,h, -⟩
   ·exact h.2
   exfalso;omega
  refine w_ (a_ (h:=e_ (A4 (A7 (?_)))))
  refine AB ?_
  exact vi (by simp[GM,e])
 have hc1:=bp hb1
 obtain⟨k,i,d,n,g1,g2,g3,g4,g5,g6⟩:=(J1 f a).resolve_left (fun h=>by omega)
 have hr1:(f.map Bx)[k]?=some (Bx d):=by rw[List.getElem?_map,g2];rfl
 have hdn:=hf.nodes d (Au g2)
 refine AJ (w_ (a_ (h:=e_ (w_ (f_ (h:=l_ (h:=f_ (h:=l_ (h:=?_)))))))))
 refine A6 rfl (CF (n:=k) rfl rfl g1 hr1 ?_)
 refine f_ (h:=l_ (h:=a_ (h:=e_ (q_ (w_ (a_ (h:=e_ (Am (?_)))))))))
 refine Ba (fun m s=>∃j c:Nat,j≤d.nodes.length∧m=d.nodes.length - j∧c=Bd a.2 (d.nodes.take j)∧c≤1000 * j∧s=⟨look [(3, .bp 1 0),(5, .v (.int .i64 (c:Int))),(6, .sl 8 (d.nodes.map Aj) none),(7, .v (.int .i64 (j:Int)))],⟨[At f,AA a],[]⟩⟩) (d.nodes.length) ((wk 2 0)) (⟨0,0,by omega,rfl,rfl,by omega,rfl⟩) ?_
 rintro m s ⟨j,c,hj,rfl,hcn,hcb,rfl⟩
 refine q_ (w_ (m_ (h:=m_ (h:=n_ (h:=BG (h:=e_ (?_)))))))
 refine A8 rfl (fun hb2=>?_) (fun hb2=>?_)
 ·have hc2:=bp hb2
  obtain⟨hlt,x,hx,hrow, -⟩:=CZ Aj hc2
  have hen:=hf.ents d (Au g2) x (Au hx)
  refine AJ (q_ (Am (w_ (a_ (h:=e_ (Am (?_)))))))
  refine Ba (fun m s=>∃i c2:Nat,i≤x.entries.length∧m=x.entries.length - i∧c2=c+Ci a.2 (x.entries.take i)∧c2≤c+i∧s=⟨look [(3, .bp 1 0),(5, .v (.int .i64 (c2:Int))),(6, .sl 8 (d.nodes.map Aj) none),(7, .v (.int .i64 (j:Int))),(8, .v (.int .i64 (i:Int)))],⟨[At f,AA a],[]⟩⟩) (x.entries.length) ((wk 2 0)) (⟨0,c,by omega,rfl,rfl,by omega,rfl⟩) ?_
  rintro m s ⟨i,c2,hi,rfl,hc2n,hc2b,rfl⟩
  refine q_ (w_ (m_ (h:=m_ (h:=m_ (h:=i_ (h:=f_ (h:=l_ (h:=n_ (h:=BG (h:=e_ (?_)))))))))))
  refine A8 rfl (fun hb3=>?_) (fun hb3=>?_)
  ·have hc3:=bp hb3
   obtain⟨hlt3,y,hy,hrow3, -⟩:=CZ CX hc3
   refine AJ (q_ (Am (q_ (DU 12 (h:=AN 0 (h:=AN 1 (h:=Dl 2 (h:=AE 3 (h:=AD 4 (h:=AN 5 (h:=Dl 6 (h:=AE 7 (h:=AD 8 (h:=AE 9 (h:=AD 10 (h:=J0 11 (h:=z_ (h:=t_ (?_)))))))))))))))))))
   refine A8 rfl (fun hb4=>?_) (fun hb4=>?_)
   ·have hc4:=bp hb4
    refine AP (m_ (h:=B8 (h:=a_ (h:=AO (Ax (t_ (AP (m_ (h:=B8 (h:=a_ (h:=AO (?_))))))))))))
    refine AF ?_
    (refine⟨_,_,?_,⟨i+1,c2+1,by omega,rfl,?_,by omega,rfl⟩,(wk 2 0)⟩<;>first|omega|(rw[Pb hy];simp[hc4];omega))
   have hc4:=bp hb4
   refine BA (Ax (t_ (AP (m_ (h:=B8 (h:=a_ (h:=AO (?_))))))))
   refine AF ?_
   first|(refine⟨_,_,?_,⟨i+1,c2+1,by omega,rfl,?_,by omega,rfl⟩,(wk 2 0)⟩<;>first|omega|(rw[Pb hy];simp[hc4];omega))|(refine⟨_,_,?_,⟨i+1,c2,by omega,rfl,?_,by omega,rfl⟩,(wk 2 0)⟩<;>first|omega|(rw[Pb hy];simp[hc4];omega))
  have hc3:=bp hb3
  have e3:=Ck CX hi hc3
  subst e3
  refine BR (Aq (Aq (BS (Ax (t_ (AP (m_ (h:=B8 (h:=a_ (h:=AO (?_)))))))))))
  refine AF ?_
  refine⟨_,_,?_,⟨j+1,c2,by omega,rfl,?_,?_,rfl⟩,(wk 2 0)⟩
  ·omega
  ·rw[hc2n,Xu hx,List.take_length];omega
  have:=Xt a.2 (x.entries.take x.entries.length);simp at this;omega
 have hc2:=bp hb2
 have e2:=Ck Aj hj hc2
 subst e2
 refine BR (Aq (Aq (BS (t_ (w_ (m_ (h:=a_ (h:=e_ (A4 (?_))))))))))
 refine AB ?_
 exact vi (by rw[Xy g1 g2 g6,hcn,List.take_length])
end
end Go.Proofs.YtbglbmnhgbgelaaGreatDoor
