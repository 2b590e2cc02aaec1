/-
  Part 4 of the proof of FilterChangesP: what the statement's proof uses of the texts in wip/tpl.
-/
import Derived.WalkKit
import Derived.Test.YtbgnigjfkbmceaaGreatDoorQa3
open Go.Proofs.Tryz (prog)
set_option maxRecDepth 10000
set_option maxHeartbeats 4000000
set_option linter.unusedVariables false
set_option linter.unusedSimpArgs false
namespace Go.Proofs.YtbgnigjfkbmceaaGreatDoor
open Go.RowKit
section
variable {P:Program}{N:Dim}{Q:Exit→AS→Prop}{s:AS}
def AC(P:Program)(N:Dim)(y:Code)(Q:Exit→AS→Prop)(s:AS):Prop:=Bl P N y Q s
theorem q_{x y:Code}(h:Bl P N x (Et (AC P N y Q) Q) s):Bl P N (.seq x y) Q s:=by
 intro E a w hr;refine wp_seq (wp_mono (h E a w hr) ?_);rintro e a' w' ⟨s',hq,hr'⟩
 cases e with
 |normal=>exact hq E a' w' hr'
 |exit id=>exact⟨s',hq,hr'⟩
 |goto l=>exact⟨s',hq,hr'⟩
 |ret=>exact⟨s',hq,hr'⟩
 |panic c=>exact⟨s',hq,hr'⟩
 |outgrown=>exact⟨s',hq,hr'⟩
theorem w_{id:Nat}{l:List Oper}{y:Code}(h:AL P N l.toArray (Et (AC P N y Q) Q) l s):Bl P N (.seq (.region id l.toArray false) y) Q s:=q_ (AT h)
theorem t_{y:Code}(h:Bl P N y Q s):Et (AC P N y Q) Q .normal s:=h
theorem e_{ops:Array Oper}{y:Code}(h:Bl P N y Q s):AL P N ops (Et (AC P N y Q) Q) [] s:=AP h
theorem AA{y:Code}(h:Bl P N y Q s):Bl P N .skip (Et (AC P N y Q) Q) s:=Av h
theorem B6{c:Operand}{x y:Code}{t:Bool}(hc:C2 s.sl c=some (.v (.bool t)):=by rfl)(ht:t=true:=by first|rfl|assumption|simp[*])(h:Bl P N x Q s):Bl P N (.cond c x y) Q s:=VT hc ht h
theorem Bh{c:Operand}{x y:Code}{t:Bool}(hc:C2 s.sl c=some (.v (.bool t)):=by rfl)(ht:t=false:=by first|rfl|assumption|simp[*])(h:Bl P N y Q s):Bl P N (.cond c x y) Q s:=VU hc ht h
end
section
variable {P:Program}{N:Dim}{Q:Exit→AS→Prop}{ops:Array Oper}{rest:List Oper}{l:List (Nat×AV)}{hh:AH}{op:Op}{ty:TypeId}{pos:String}{af:Array Edge}
theorem A3{d j:Nat}{want t:Bool}(hd:Nat.blt d N.n=true:=by rfl)(hy:yv ops (look l) j=some (some t):=by rfl)(ht:(t==want)=false:=by first|rfl|exact Qt ‹_›|exact Qu ‹_›|simp[*])(h:AL P N ops Q rest ⟨look ((d, .v undef)::l),hh⟩):AL P N ops Q (⟨some d,op,ty,pos,af,some (j,want)⟩::rest) ⟨look l,hh⟩:=VV hd hy ht h
theorem AX{d j:Nat}{want:Bool}(hd:Nat.blt d N.n=true:=by rfl)(hy:yv ops (look l) j=some none:=by rfl)(h:AL P N ops Q rest ⟨look ((d, .v undef)::l),hh⟩):AL P N ops Q (⟨some d,op,ty,pos,af,some (j,want)⟩::rest) ⟨look l,hh⟩:=VW hd hy h
end
def KB:List (Nat×List AV)→AH→Prop
 |[],_=>True
 |(i,r)::l,h=>h.bx[i]?=some r∧KB l h
def OQ:List (Nat×List AV)→Nat→Option (List AV)
 |[],_=>none
 |(i,r)::l,j=>match Nat.beq i j with
   |true=>some r
   |false=>OQ l j
theorem kb:∀{l:List (Nat×List AV)} {h:AH} {i:Nat} {row:List AV},KB l h→OQ l i=some row→h.bx[i]?=some row
 |[],_,_,_,_,e=>by cases e
 |(j,r)::l,h,i,row,k,e=>by
   unfold OQ at e;split at e
   ·rename_i hb;have:=Nat.eq_of_beq_eq_true hb;subst this;injection e with e;subst e;exact k.1
   exact kb k.2 e
theorem Ke(h:AH):KB [] h:=trivial
theorem Kf{l:List (Nat×List AV)}{h:AH}{i:Nat}{r:List AV}(h1:h.bx[i]?=some r)(h2:KB l h):KB ((i,r)::l) h:=⟨h1,h2⟩
def Do(_i:Nat)(B A:Prop):Prop:=B→A
section
variable {P:Program}{N:Dim}{l:List Oper}{Q:Exit→AS→Prop}{S:AH→Prop}{tl fuel:Nat}{listed:Array Bool}{m:List (Nat×AV)}{hh:AH}{op:Op}{ty:TypeId}{pos:String}{af:Array Edge}{gd:Option (Nat×Bool)}
theorem C9{i d:Nat}{x:AV}(hi:l[i]?=some ⟨some d,op,ty,pos,af,gd⟩)(hst:AStep P ⟨some d,op,ty,pos,af,gd⟩ (C2 (look m)) hh (fun x' h'=>x'=x∧h'=hh))(hd:Nat.blt d N.n=true:=by rfl)(htl:(Ft l.toArray tl listed&& !Nat.ble tl i&&Region.free .any l.toArray listed i&&(Region.ready .any l.toArray listed).contains i)=true:=by kernel_rfl)
    (hw:CG l.toArray (look m) ⟨some d,op,ty,pos,af,gd⟩=some true:=by first|rfl|exact AM rfl rfl (BC ‹_›)|exact AM rfl rfl (BD ‹_›)|exact AM rfl rfl (by simp[*])):
    Do i (AAny P N l.toArray Q (fun h'=>h'=hh) tl fuel (listed.setIfInBounds i true) ⟨look ((d,x)::m),hh⟩) (AAny P N l.toArray Q (fun h'=>h'=hh) tl (fuel+1) listed ⟨look m,hh⟩):=fun H=>QX hi hd htl hw hst H
theorem CA{K:List (Nat×List AV)}{i d:Nat}{x:AV}(hi:l[i]?=some ⟨some d,op,ty,pos,af,gd⟩)(hst:∀h,KB K h→AStep P ⟨some d,op,ty,pos,af,gd⟩ (C2 (look m)) h (fun x' h'=>x'=x∧h'=h))(hd:Nat.blt d N.n=true:=by rfl)(htl:(Ft l.toArray tl listed&& !Nat.ble tl i&&Region.free .any l.toArray listed i&&(Region.ready .any l.toArray listed).contains i)=true:=by kernel_rfl)
    (hw:CG l.toArray (look m) ⟨some d,op,ty,pos,af,gd⟩=some true:=by first|rfl|exact AM rfl rfl (BC ‹_›)|exact AM rfl rfl (BD ‹_›)|exact AM rfl rfl (by simp[*])) (hS:KB K hh:=by repeat (first|exact Ke _|refine Kf rfl ?_)):
    Do i (AAny P N l.toArray Q (KB K) tl fuel (listed.setIfInBounds i true) ⟨look ((d,x)::m),hh⟩) (AAny P N l.toArray Q (KB K) tl (fuel+1) listed ⟨look m,hh⟩):=fun H=>BL hi hd htl hw hst hS H
theorem BG{K:List (Nat×List AV)}(i:Nat){d:Nat}{x:AV}(hi:l[i]?=some ⟨some d,op,ty,pos,af,gd⟩)(hst:∀h,KB K h→AStep P ⟨some d,op,ty,pos,af,gd⟩ (C2 (look m)) h (fun x' h'=>x'=x∧h'=h))(H:AAny P N l.toArray Q (KB K) tl fuel (listed.setIfInBounds i true) ⟨look ((d,x)::m),hh⟩)(hd:Nat.blt d N.n=true:=by rfl)(htl:(Ft l.toArray tl listed&& !Nat.ble tl i&&Region.free .any l.toArray listed i&&(Region.ready .any l.toArray listed).contains i)=true:=by kernel_rfl)
    (hw:CG l.toArray (look m) ⟨some d,op,ty,pos,af,gd⟩=some true:=by first|rfl|exact AM rfl rfl (BC ‹_›)|exact AM rfl rfl (BD ‹_›)|exact AM rfl rfl (by simp[*])) (hS:KB K hh:=by repeat (first|exact Ke _|refine Kf rfl ?_)):AAny P N l.toArray Q (KB K) tl (fuel+1) listed ⟨look m,hh⟩:=BL hi hd htl hw hst hS H
theorem Be(i:Nat){d:Nat}(hi:l[i]?=some ⟨some d,op,ty,pos,af,gd⟩:=by rfl)(hd:Nat.blt d N.n=true:=by rfl)(htl:(Ft l.toArray tl listed&& !Nat.ble tl i&&Region.free .any l.toArray listed i&&(Region.ready .any l.toArray listed).contains i)=true:=by kernel_rfl)
    (hw:CG l.toArray (look m) ⟨some d,op,ty,pos,af,gd⟩=some false:=by first|rfl|exact Nu rfl rfl (Qt ‹_›)|exact Nu rfl rfl (Qu ‹_›)|exact V8 rfl rfl|exact Nu rfl rfl (by simp[*]))
    (hS:S hh:=by first|rfl|(repeat (first|exact Ke _|refine Kf rfl ?_))) (h:AAny P N l.toArray Q S tl fuel (listed.setIfInBounds i true) ⟨look ((d, .v undef)::m),hh⟩):AAny P N l.toArray Q S tl (fuel+1) listed ⟨look m,hh⟩:=V3 hi hd htl hw hS h
theorem c_(i:Nat){d:Nat}(hi:l[i]?=some ⟨some d,op,ty,pos,af,gd⟩)(H:AStep P ⟨some d,op,ty,pos,af,gd⟩ (C2 (look m)) hh (fun x h'=>(Nat.ble tl i=true∨S h')∧AAny P N l.toArray Q S tl fuel (listed.setIfInBounds i true) ⟨look ((d,x)::m),h'⟩))(hd:Nat.blt d N.n=true:=by rfl)(hr:Region.ready .any l.toArray listed=[i]:=by kernel_rfl)
    (hw:CG l.toArray (look m) ⟨some d,op,ty,pos,af,gd⟩=some true:=by first|rfl|exact AM rfl rfl (BC ‹_›)|exact AM rfl rfl (BD ‹_›)|exact AM rfl rfl (by simp[*])):AAny P N l.toArray Q S tl (fuel+1) listed ⟨look m,hh⟩:=V4 hi hd hr hw H
theorem Bi(i:Nat)(hi:l[i]?=some ⟨none,op,ty,pos,af,gd⟩)(H:AStep P ⟨none,op,ty,pos,af,gd⟩ (C2 (look m)) hh (fun _ h'=>(Nat.ble tl i=true∨S h')∧AAny P N l.toArray Q S tl fuel (listed.setIfInBounds i true) ⟨look m,h'⟩))(hr:Region.ready .any l.toArray listed=[i]:=by kernel_rfl)
    (hw:CG l.toArray (look m) ⟨none,op,ty,pos,af,gd⟩=some true:=by first|rfl|exact AM rfl rfl (BC ‹_›)|exact AM rfl rfl (BD ‹_›)|exact AM rfl rfl (by simp[*])):AAny P N l.toArray Q S tl (fuel+1) listed ⟨look m,hh⟩:=V5 hi hr hw H
theorem G6(i j:Nat){di dj:Nat}{op':Op}{ty':TypeId}{pos':String}{af':Array Edge}{gd':Option (Nat×Bool)}(hi:l[i]?=some ⟨some di,op,ty,pos,af,gd⟩)(hj:l[j]?=some ⟨some dj,op',ty',pos',af',gd'⟩)
    (H1:AStep P ⟨some di,op,ty,pos,af,gd⟩ (C2 (look m)) hh (fun x h'=>(Nat.ble tl i=true∨S h')∧AAny P N l.toArray Q S tl fuel (listed.setIfInBounds i true) ⟨look ((di,x)::m),h'⟩))
    (H2:AStep P ⟨some dj,op',ty',pos',af',gd'⟩ (C2 (look m)) hh (fun x h'=>(Nat.ble tl j=true∨S h')∧AAny P N l.toArray Q S tl fuel (listed.setIfInBounds j true) ⟨look ((dj,x)::m),h'⟩))
    (hdi:Nat.blt di N.n=true:=by rfl) (hdj:Nat.blt dj N.n=true:=by rfl) (hr:Region.ready .any l.toArray listed=[i,j]:=by kernel_rfl)
    (hwi:CG l.toArray (look m) ⟨some di,op,ty,pos,af,gd⟩=some true:=by first|rfl|exact AM rfl rfl (BC ‹_›)|exact AM rfl rfl (BD ‹_›)|exact AM rfl rfl (by simp[*]))
    (hwj:CG l.toArray (look m) ⟨some dj,op',ty',pos',af',gd'⟩=some true:=by first|rfl|exact AM rfl rfl (BC ‹_›)|exact AM rfl rfl (BD ‹_›)|exact AM rfl rfl (by simp[*])):AAny P N l.toArray Q S tl (fuel+1) listed ⟨look m,hh⟩:=Vp hr hi hdi hwi hj hdj hwj H1 H2
theorem o_{i:Nat}{A:Prop}{h':AH}(hS:Nat.ble tl i=true∨S h':=by first|exact .inl rfl|exact .inr rfl|exact .inr (by repeat (first|exact Ke _|refine Kf rfl ?_)))(h:A):(Nat.ble tl i=true∨S h')∧A:=⟨hS,h⟩
theorem z_(hr:Region.ready .any l.toArray listed=[]:=by kernel_rfl)(h:Q .normal ⟨look m,hh⟩):AAny P N l.toArray Q S tl fuel listed ⟨look m,hh⟩:=V7 hr h fuel
theorem DE(tl:Nat){id:Nat}(hm:P.follows .mixedOrders=true:=by kernel_rfl)(h:AAny P N l.toArray Q (fun h'=>h'=hh) tl l.length (Array.replicate l.length false) ⟨look m,hh⟩):Bl P N (.region id l.toArray true) Q ⟨look m,hh⟩:=V6 tl hm h
theorem CB(K:List (Nat×List AV))(tl:Nat){id:Nat}(hm:P.follows .mixedOrders=true:=by kernel_rfl)(h:AAny P N l.toArray Q (KB K) tl l.length (Array.replicate l.length false) ⟨look m,hh⟩):Bl P N (.region id l.toArray true) Q ⟨look m,hh⟩:=JR _ tl hm h
end
section
variable {P:Program}{rs:List ResultVar}{n:Nat}{R:AV→List (List AV)→List C8→Prop}{s:AS}{xs:List AV}{r:AV}
theorem Am(g:Option Nat){tk':List C8}(h1:ResA P s rs xs:=by repeat (first|exact ResA.nil|(apply ResA.tmp;(focus exact rfl))|(apply ResA.cellN;(focus exact inferInstance);(focus exact rfl);(focus exact rfl);(focus exact rfl))|(apply ResA.cell1;(focus exact inferInstance);(focus exact rfl);(focus exact rfl);(focus exact rfl))))(h2:Gv s.h.tk g=some tk':=by rfl)(h3:B9 n 1 (Ct g (Ds xs))=true:=by rfl)(h4:BF n 0 (s.h.bx.take n)=true:=by rfl)(h5:LeA (Ct g (Ds xs)) r)(h6:R r (s.h.bx.take n) tk'):Gw P rs n R .ret s:=MF g h1 h2 h3 h4 h5 h6
theorem OR(g:Option Nat){tk':List C8}(h1:ResA P s rs xs:=by repeat (first|exact ResA.nil|(apply ResA.tmp;(focus exact rfl))|(apply ResA.cellN;(focus exact inferInstance);(focus exact rfl);(focus exact rfl);(focus exact rfl))|(apply ResA.cell1;(focus exact inferInstance);(focus exact rfl);(focus exact rfl);(focus exact rfl))))(h2:Gv s.h.tk g=some tk':=by rfl)(h3:B9 n 1 (Ct g (Ds xs))=true:=by rfl)(h4:BF n 0 (s.h.bx.take n)=true:=by rfl)(h5:LeA (Ct g (Ds xs)) r)(h6:R r (s.h.bx.take n) tk'):Gw P rs n R .normal s:=VO g h1 h2 h3 h4 h5 h6
end
theorem m_{A B:Prop}(k:B→A:=by intro b;first|exact A6 rfl (EE rfl b)|exact Ax (EE rfl b))(h:B):A:=k h
theorem Ap(i:Nat){A B:Prop}(k:Do i B A:=by first|exact C9 rfl (EE rfl ⟨rfl,rfl⟩)|exact CA rfl (fun _ _=>EE rfl ⟨rfl,rfl⟩))(h:B):A:=k h
theorem a_{A B:Prop}(k:B→A:=by intro b;first|exact A6 rfl (Gr rfl b)|exact Ax (Gr rfl b))(h:B):A:=k h
theorem BN(i:Nat){A B:Prop}(k:Do i B A:=by first|exact C9 rfl (Gr rfl ⟨rfl,rfl⟩)|exact CA rfl (fun _ _=>Gr rfl ⟨rfl,rfl⟩))(h:B):A:=k h
theorem f_{A B:Prop}(k:B→A:=by intro b;first|exact A6 rfl (Dy rfl b)|exact A6 rfl (Fx rfl b)|exact Ax (Dy rfl b)|exact Ax (Fx rfl b))(h:B):A:=k h
theorem Az(i:Nat){A B:Prop}(k:Do i B A:=by first|exact C9 rfl (Dy rfl ⟨rfl,rfl⟩)|exact C9 rfl (Fx rfl ⟨rfl,rfl⟩)|exact CA rfl (fun _ _=>Dy rfl ⟨rfl,rfl⟩)|exact CA rfl (fun _ _=>Fx rfl ⟨rfl,rfl⟩))(h:B):A:=k h
theorem l_{A B:Prop}(k:B→A:=by intro b;first|exact A6 rfl (Bb rfl rfl rfl b)|exact A6 rfl (Eu rfl rfl rfl b)|exact A6 rfl (Fy rfl rfl b)|exact A6 rfl (Gs rfl rfl b)|exact A6 rfl (ET rfl rfl rfl b)|exact A6 rfl (GO rfl rfl b)|exact Ax (Bb rfl rfl rfl b)|exact Ax (Eu rfl rfl rfl b)|exact Ax (Fy rfl rfl b)|exact Ax (Gs rfl rfl b)|exact Ax (ET rfl rfl rfl b)|exact Ax (GO rfl rfl b))(h:B):A:=k h
theorem AY(i:Nat){A B:Prop}(k:Do i B A:=by first|exact C9 rfl (Bb rfl rfl rfl ⟨rfl,rfl⟩)|exact C9 rfl (Eu rfl rfl rfl ⟨rfl,rfl⟩)|exact C9 rfl (Fy rfl rfl ⟨rfl,rfl⟩)|exact C9 rfl (Gs rfl rfl ⟨rfl,rfl⟩)|exact C9 rfl (ET rfl rfl rfl ⟨rfl,rfl⟩)|exact C9 rfl (GO rfl rfl ⟨rfl,rfl⟩)|exact CA rfl (fun _ hS=>Bb rfl (kb hS rfl) rfl ⟨rfl,rfl⟩)|exact CA rfl (fun _ hS=>Eu rfl (kb hS rfl) rfl ⟨rfl,rfl⟩)|exact CA rfl (fun _ _=>Fy rfl rfl ⟨rfl,rfl⟩)|exact CA rfl (fun _ _=>Gs rfl rfl ⟨rfl,rfl⟩)|exact CA rfl (fun _ hS=>ET rfl (kb hS rfl) rfl ⟨rfl,rfl⟩)|exact CA rfl (fun _ _=>GO rfl rfl ⟨rfl,rfl⟩))(h:B):A:=k h
theorem s_{A B:Prop}(k:B→A:=by intro b;exact MK (Ba rfl rfl rfl rfl rfl rfl (by repeat constructor) (by repeat constructor) b))(h:B):A:=k h
theorem b_{A B:Prop}(k:B→A:=by intro b;first|exact A6 rfl (Qw rfl rfl (by repeat constructor) b)|exact A6 rfl (Qv rfl rfl (by repeat constructor) b)|exact Ax (Qw rfl rfl (by repeat constructor) b)|exact Ax (Qv rfl rfl (by repeat constructor) b))(h:B):A:=k h
theorem Aa{A B:Prop}(k:B→A:=by intro b;first|exact A6 rfl (Dt (by repeat constructor) b)|exact Ax (Dt (by repeat constructor) b))(h:B):A:=k h
theorem n_{A B:Prop}(k:B→A:=by intro b;first|exact A6 rfl (M9 rfl b)|exact A6 rfl (M8 (by kernel_rfl) rfl b)|exact A6 rfl (MA rfl b)|exact Ax (M9 rfl b)|exact Ax (M8 (by kernel_rfl) rfl b)|exact Ax (MA rfl b))(h:B):A:=k h
theorem H4(i:Nat){A B:Prop}(k:Do i B A:=by first|exact C9 rfl (M9 rfl ⟨rfl,rfl⟩)|exact C9 rfl (M8 (by kernel_rfl) rfl ⟨rfl,rfl⟩)|exact C9 rfl (MA rfl ⟨rfl,rfl⟩)|exact CA rfl (fun _ _=>M9 rfl ⟨rfl,rfl⟩)|exact CA rfl (fun _ _=>M8 (by kernel_rfl) rfl ⟨rfl,rfl⟩)|exact CA rfl (fun _ _=>MA rfl ⟨rfl,rfl⟩))(h:B):A:=k h
theorem D3{A B:Prop}(k:B→A:=by intro b;first|exact A6 rfl (E0 rfl rfl rfl (by simp<;>omega) (by repeat constructor) b)|exact A6 rfl (E1 rfl rfl (by simp<;>omega) (by repeat constructor) b)|exact Ax (E0 rfl rfl rfl (by simp<;>omega) (by repeat constructor) b)|exact Ax (E1 rfl rfl (by simp<;>omega) (by repeat constructor) b))(h:B):A:=k h
theorem x_{A B:Prop}(k:B→A:=by intro b;first|exact A6 rfl (Ls rfl rfl b)|exact Ax (Ls rfl rfl b))(h:B):A:=k h
theorem Bw(i:Nat){A B:Prop}(k:Do i B A:=by first|exact C9 rfl (Ls rfl rfl ⟨rfl,rfl⟩)|exact CA rfl (fun _ _=>Ls rfl rfl ⟨rfl,rfl⟩))(h:B):A:=k h
theorem k_{A B:Prop}(k:B→A:=by intro b;first|exact A6 rfl (Fv rfl b)|exact A6 rfl (Fw rfl b)|exact Ax (Fv rfl b)|exact Ax (Fw rfl b))(h:B):A:=k h
theorem Du(i:Nat){A B:Prop}(k:Do i B A:=by first|exact C9 rfl (Fv rfl ⟨rfl,rfl⟩)|exact C9 rfl (Fw rfl ⟨rfl,rfl⟩)|exact CA rfl (fun _ _=>Fv rfl ⟨rfl,rfl⟩)|exact CA rfl (fun _ _=>Fw rfl ⟨rfl,rfl⟩))(h:B):A:=k h
theorem Ab{A B:Prop}(k:B→A:=by intro b;first|exact A6 rfl (KS (by repeat (first|exact FillA.nil _|(apply FillA.cons;(focus exact rfl);(focus exact rfl);(focus exact rfl);(focus exact rfl);(focus exact rfl);(focus (repeat constructor))))) b)|exact Ax (KS (by repeat (first|exact FillA.nil _|(apply FillA.cons;(focus exact rfl);(focus exact rfl);(focus exact rfl);(focus exact rfl);(focus exact rfl);(focus (repeat constructor))))) b))(h:B):A:=k h
theorem G7(i:Nat){A B:Prop}(k:Do i B A:=by first|exact C9 rfl (KS (by repeat (first|exact FillA.nil _|(apply FillA.cons;(focus exact rfl);(focus exact rfl);(focus exact rfl);(focus exact rfl);(focus exact rfl);(focus (repeat constructor))))) ⟨rfl,rfl⟩)|exact CA rfl (fun _ _=>KS (by repeat (first|exact FillA.nil _|(apply FillA.cons;(focus exact rfl);(focus exact rfl);(focus exact rfl);(focus exact rfl);(focus exact rfl);(focus (repeat constructor))))) ⟨rfl,rfl⟩))(h:B):A:=k h
theorem Bc{A B:Prop}(k:B→A:=by intro b;first|exact A6 rfl (KT (by repeat (first|exact DenseA.nil _|(apply DenseA.cons;(focus exact rfl);(focus exact rfl);(focus exact rfl);(focus exact rfl))|(apply DenseA.consE;(focus exact rfl);(focus exact rfl);(focus exact rfl)))) rfl rfl rfl rfl b)|exact Ax (KT (by repeat (first|exact DenseA.nil _|(apply DenseA.cons;(focus exact rfl);(focus exact rfl);(focus exact rfl);(focus exact rfl))|(apply DenseA.consE;(focus exact rfl);(focus exact rfl);(focus exact rfl)))) rfl rfl rfl rfl b))(h:B):A:=k h
theorem Mf(i:Nat){A B:Prop}(k:Do i B A:=by first|exact C9 rfl (KT (by repeat (first|exact DenseA.nil _|(apply DenseA.cons;(focus exact rfl);(focus exact rfl);(focus exact rfl);(focus exact rfl))|(apply DenseA.consE;(focus exact rfl);(focus exact rfl);(focus exact rfl)))) rfl rfl rfl rfl ⟨rfl,rfl⟩)|exact CA rfl (fun _ _=>KT (by repeat (first|exact DenseA.nil _|(apply DenseA.cons;(focus exact rfl);(focus exact rfl);(focus exact rfl);(focus exact rfl))|(apply DenseA.consE;(focus exact rfl);(focus exact rfl);(focus exact rfl)))) rfl rfl rfl rfl ⟨rfl,rfl⟩))(h:B):A:=k h
theorem AD{A B:Prop}(k:B→A:=by intro b;first|exact A6 rfl (MW b)|exact Ax (MW b))(h:B):A:=k h
theorem H5(i:Nat){A B:Prop}(k:Do i B A:=by first|exact C9 rfl (MW ⟨rfl,rfl⟩)|exact CA rfl (fun _ _=>MW ⟨rfl,rfl⟩))(h:B):A:=k h
theorem AG{A B:Prop}(k:B→A:=by intro b;first|exact A6 rfl (MX b)|exact Ax (MX b))(h:B):A:=k h
theorem H6(i:Nat){A B:Prop}(k:Do i B A:=by first|exact C9 rfl (MX ⟨rfl,rfl⟩)|exact CA rfl (fun _ _=>MX ⟨rfl,rfl⟩))(h:B):A:=k h
theorem OS{A B:Prop}(k:B→A:=by intro b;first|exact A6 rfl (QY rfl b)|exact Ax (QY rfl b))(h:B):A:=k h
theorem i_{A B:Prop}(k:B→A:=by intro b;first|exact A6 rfl (Dc rfl rfl rfl (by first|assumption|rfl) b)|exact Ax (Dc rfl rfl rfl (by first|assumption|rfl) b))(h:B):A:=k h
theorem Dj(i:Nat){A B:Prop}(k:Do i B A:=by first|exact C9 rfl (Dc rfl rfl rfl (by first|assumption|rfl) ⟨rfl,rfl⟩)|exact CA rfl (fun _ _=>Dc rfl rfl rfl (by first|assumption|rfl) ⟨rfl,rfl⟩))(h:B):A:=k h
theorem OT{A B:Prop}(k:B→A:=by intro b;first|exact A6 rfl (ML rfl rfl (by omega) (by repeat constructor) b)|exact Ax (ML rfl rfl (by omega) (by repeat constructor) b))(h:B):A:=k h
theorem B7{A B:Prop}(k:B→A:=by intro b;first|exact A6 rfl (M7 rfl b)|exact Ax (M7 rfl b))(h:B):A:=k h
theorem RL(i:Nat){A B:Prop}(k:Do i B A:=by first|exact C9 rfl (M7 rfl ⟨rfl,rfl⟩)|exact CA rfl (fun _ _=>M7 rfl ⟨rfl,rfl⟩))(h:B):A:=k h
theorem B5{A B:Prop}(k:B→A:=by intro b;first|exact A6 rfl (GP rfl rfl (by omega) b)|exact A6 rfl (Dr rfl rfl (by omega) b)|exact A6 rfl (KQ rfl rfl b)|exact Ax (GP rfl rfl (by omega) b)|exact Ax (Dr rfl rfl (by omega) b)|exact Ax (KQ rfl rfl b))(h:B):A:=k h
theorem Vq(i:Nat){A B:Prop}(k:Do i B A:=by first|exact C9 rfl (GP rfl rfl (by omega) ⟨rfl,rfl⟩)|exact C9 rfl (Dr rfl rfl (by omega) ⟨rfl,rfl⟩)|exact C9 rfl (KQ rfl rfl ⟨rfl,rfl⟩)|exact CA rfl (fun _ _=>GP rfl rfl (by omega) ⟨rfl,rfl⟩)|exact CA rfl (fun _ _=>Dr rfl rfl (by omega) ⟨rfl,rfl⟩)|exact CA rfl (fun _ _=>KQ rfl rfl ⟨rfl,rfl⟩))(h:B):A:=k h
theorem G8{A B:Prop}(k:B→A:=by intro b;first|exact A6 rfl (Hv rfl rfl (by omega) b)|exact A6 rfl (KR rfl rfl b)|exact Ax (Hv rfl rfl (by omega) b)|exact Ax (KR rfl rfl b))(h:B):A:=k h
theorem OU(i:Nat){A B:Prop}(k:Do i B A:=by first|exact C9 rfl (Hv rfl rfl (by omega) ⟨rfl,rfl⟩)|exact C9 rfl (KR rfl rfl ⟨rfl,rfl⟩)|exact CA rfl (fun _ _=>Hv rfl rfl (by omega) ⟨rfl,rfl⟩)|exact CA rfl (fun _ _=>KR rfl rfl ⟨rfl,rfl⟩))(h:B):A:=k h
theorem Vr{A B:Prop}(k:B→A:=by intro b;first|exact A6 rfl (Qe rfl rfl b)|exact Ax (Qe rfl rfl b))(h:B):A:=k h
theorem AN{A B:Prop}(k:B→A:=by intro b;first|exact A6 rfl (Lx rfl rfl b)|exact A6 rfl (M3 rfl rfl b)|exact A6 rfl (MO (by kernel_rfl) rfl rfl b)|exact Ax (Lx rfl rfl b)|exact Ax (M3 rfl rfl b)|exact Ax (MO (by kernel_rfl) rfl rfl b))(h:B):A:=k h
theorem Fh(i:Nat){A B:Prop}(k:Do i B A:=by first|exact C9 rfl (Lx rfl rfl ⟨rfl,rfl⟩)|exact C9 rfl (M3 rfl rfl ⟨rfl,rfl⟩)|exact C9 rfl (MO (by kernel_rfl) rfl rfl ⟨rfl,rfl⟩)|exact CA rfl (fun _ _=>Lx rfl rfl ⟨rfl,rfl⟩)|exact CA rfl (fun _ _=>M3 rfl rfl ⟨rfl,rfl⟩)|exact CA rfl (fun _ _=>MO (by kernel_rfl) rfl rfl ⟨rfl,rfl⟩))(h:B):A:=k h
theorem Aj{A B:Prop}(k:B→A:=by intro b;first|exact A6 rfl (Ly rfl rfl b)|exact A6 rfl (M4 rfl rfl b)|exact A6 rfl (MP (by kernel_rfl) rfl rfl b)|exact Ax (Ly rfl rfl b)|exact Ax (M4 rfl rfl b)|exact Ax (MP (by kernel_rfl) rfl rfl b))(h:B):A:=k h
theorem OV(i:Nat){A B:Prop}(k:Do i B A:=by first|exact C9 rfl (Ly rfl rfl ⟨rfl,rfl⟩)|exact C9 rfl (M4 rfl rfl ⟨rfl,rfl⟩)|exact C9 rfl (MP (by kernel_rfl) rfl rfl ⟨rfl,rfl⟩)|exact CA rfl (fun _ _=>Ly rfl rfl ⟨rfl,rfl⟩)|exact CA rfl (fun _ _=>M4 rfl rfl ⟨rfl,rfl⟩)|exact CA rfl (fun _ _=>MP (by kernel_rfl) rfl rfl ⟨rfl,rfl⟩))(h:B):A:=k h
theorem B1{A B:Prop}(k:B→A:=by intro b;first|exact A6 rfl (Lz rfl rfl b)|exact A6 rfl (M5 rfl rfl b)|exact Ax (Lz rfl rfl b)|exact Ax (M5 rfl rfl b))(h:B):A:=k h
theorem Vs(i:Nat){A B:Prop}(k:Do i B A:=by first|exact C9 rfl (Lz rfl rfl ⟨rfl,rfl⟩)|exact C9 rfl (M5 rfl rfl ⟨rfl,rfl⟩)|exact CA rfl (fun _ _=>Lz rfl rfl ⟨rfl,rfl⟩)|exact CA rfl (fun _ _=>M5 rfl rfl ⟨rfl,rfl⟩))(h:B):A:=k h
theorem EJ{A B:Prop}(k:B→A:=by intro b;first|exact A6 rfl (M0 rfl rfl b)|exact Ax (M0 rfl rfl b))(h:B):A:=k h
theorem Vt(i:Nat){A B:Prop}(k:Do i B A:=by first|exact C9 rfl (M0 rfl rfl ⟨rfl,rfl⟩)|exact CA rfl (fun _ _=>M0 rfl rfl ⟨rfl,rfl⟩))(h:B):A:=k h
theorem Bf{A B:Prop}(k:B→A:=by intro b;first|exact A6 rfl (M1 rfl rfl b)|exact Ax (M1 rfl rfl b))(h:B):A:=k h
theorem OW(i:Nat){A B:Prop}(k:Do i B A:=by first|exact C9 rfl (M1 rfl rfl ⟨rfl,rfl⟩)|exact CA rfl (fun _ _=>M1 rfl rfl ⟨rfl,rfl⟩))(h:B):A:=k h
theorem D4{A B:Prop}(k:B→A:=by intro b;first|exact A6 rfl (M2 rfl rfl b)|exact A6 rfl (M6 rfl rfl b)|exact Ax (M2 rfl rfl b)|exact Ax (M6 rfl rfl b))(h:B):A:=k h
theorem RM(i:Nat){A B:Prop}(k:Do i B A:=by first|exact C9 rfl (M2 rfl rfl ⟨rfl,rfl⟩)|exact C9 rfl (M6 rfl rfl ⟨rfl,rfl⟩)|exact CA rfl (fun _ _=>M2 rfl rfl ⟨rfl,rfl⟩)|exact CA rfl (fun _ _=>M6 rfl rfl ⟨rfl,rfl⟩))(h:B):A:=k h
theorem Mg{A B:Prop}(k:B→A:=by intro b;first|exact A6 rfl (Qy rfl rfl b)|exact Ax (Qy rfl rfl b))(h:B):A:=k h
theorem at_{A B:Prop}(k:B→A:=by intro b;first|exact A6 rfl (R8 rfl rfl b)|exact Ax (R8 rfl rfl b))(h:B):A:=k h
theorem Vu{A B:Prop}(k:B→A:=by intro b;first|exact A6 rfl (Qz rfl rfl b)|exact Ax (Qz rfl rfl b))(h:B):A:=k h
theorem RN{A B:Prop}(k:B→A:=by intro b;first|exact A6 rfl (R2 rfl rfl (by omega) b)|exact Ax (R2 rfl rfl (by omega) b))(h:B):A:=k h
theorem C3{f:Nat→Option AV}{bx:List (List AV)}{tk:List (Nat×Nat×List (List AV))}{l:List (Nat×AV)}{N:Dim}(n m:Nat){bx':List (List AV)}{tk':List (Nat×Nat×List (List AV))}(hbp:BF n m bx'=true)(hn:Nat.ble N.ni n=true:=by rfl)(hb:bx.take n=bx':=by rfl)(ht:tk.take m=tk':=by rfl)(hl:Sub n m f l:=by repeat (first|exact Sub.nil|refine Sub.cons _ _ _ rfl rfl ?_|refine Sub.any _ _ ?_|refine Sub.sl _ _ _ _ _ rfl ?_|refine Sub.slnil _ _ _ rfl ?_)):Weak N ⟨f,⟨bx,tk⟩⟩ ⟨look l,⟨bx',tk'⟩⟩:=Ay n m hn hb ht hbp hl
theorem E8{P:Program}{ev:Operand→Option AV}{h:AH}{R:AV→AH→Prop}{d:Option Tmp}{ty:TypeId}{pos:String}{af:Array Edge}{gd:Option (Nat×Bool)}{T:TypeId}{l:List (Nat×Operand)}{pl:List (Nat×Nat)}{row cs:List AV}[hp:Plc P T pl][hz:Zer P T row](hR:R (.agg cs) h)(hf:FillA pl ev row l cs:=by repeat (first|exact FillA.nil _|(apply FillA.cons;(focus exact rfl);(focus exact rfl);(focus exact rfl);(focus exact rfl);(focus exact rfl);(focus (repeat constructor))))):AStep P ⟨d, .build T l.toArray,ty,pos,af,gd⟩ ev h R:=KS hf hR
theorem H7{P:Program}{ev:Operand→Option AV}{h:AH}{R:AV→AH→Prop}{o:Oper}{x y:AV}(hs:AStep P o ev h fun r h'=>r=x∧h'=h)(hR:R y h)(hl:LeA x y:=by repeat (first|exact AZ _|exact LeA.nil _|exact LeL.refl _|refine LeA.agg ?_|refine LeA.tup ?_|exact LeL.nil|refine LeL.cons ?_ ?_|exact LeA.any _)):AStep P o ev h R:=G5 hs hl hR
instance :Typ prog 3 1 false:=⟨by kernel_rfl⟩
instance :Typ prog 4 1 false:=⟨by kernel_rfl⟩
instance :Zer prog 4 [.v (.bool false)]:=⟨[.bool false],by kernel_rfl,rfl,rfl⟩
instance :Typ prog 9 1 false:=⟨by kernel_rfl⟩
instance :Typ prog 22 1 false:=⟨by kernel_rfl⟩
instance :Elm prog 22 3 1 8:=⟨by kernel_rfl,by decide⟩
instance :Typ prog 26 2 true:=⟨by kernel_rfl⟩
instance :Zer prog 26 [.v (.int .i64 0), .v (.int .i64 0)]:=⟨[.int .i64 0, .int .i64 0],by kernel_rfl,rfl,rfl⟩
instance :Plc prog 26 [(0,1),(1,1)]:=⟨by kernel_rfl⟩
instance :Fld prog 26 0 0 1:=⟨by kernel_rfl⟩
instance :Fld prog 26 1 1 1:=⟨by kernel_rfl⟩
instance :Zer prog 29 [.v (.int .i64 0), .v (.int .i64 0), .v (.int .i64 0), .v (.int .i64 0), .v (.int .i64 0), .v (.int .i64 0), .v (.int .i64 0), .v (.int .i64 0), .v (.int .i64 0), .v (.int .i64 0), .v (.string ⟨#[]⟩), .v (.string ⟨#[]⟩), .v (.slice none 0 0), .v (.bool false)]:=⟨[.int .i64 0, .int .i64 0, .int .i64 0, .int .i64 0, .int .i64 0, .int .i64 0, .int .i64 0, .int .i64 0, .int .i64 0, .int .i64 0, .string ⟨#[]⟩, .string ⟨#[]⟩, .slice none 0 0, .bool false],by kernel_rfl,rfl,rfl⟩
instance :Plc prog 29 [(0,1),(1,1),(2,1),(3,1),(4,1),(5,1),(6,1),(7,1),(8,2),(10,1),(11,1),(12,1),(13,1)]:=⟨by kernel_rfl⟩
instance :Fld prog 29 0 0 1:=⟨by kernel_rfl⟩
instance :Fld prog 29 1 1 1:=⟨by kernel_rfl⟩
instance :Fld prog 29 2 2 1:=⟨by kernel_rfl⟩
instance :Fld prog 29 3 3 1:=⟨by kernel_rfl⟩
instance :Fld prog 29 4 4 1:=⟨by kernel_rfl⟩
instance :Fld prog 29 5 5 1:=⟨by kernel_rfl⟩
instance :Fld prog 29 6 6 1:=⟨by kernel_rfl⟩
instance :Fld prog 29 7 7 1:=⟨by kernel_rfl⟩
instance :Fld prog 29 9 10 1:=⟨by kernel_rfl⟩
instance :Fld prog 29 10 11 1:=⟨by kernel_rfl⟩
instance :Fld prog 29 12 13 1:=⟨by kernel_rfl⟩
instance :Typ prog 31 1 false:=⟨by kernel_rfl⟩
instance :Elm prog 31 9 1 16:=⟨by kernel_rfl,by decide⟩
instance :Fld prog 33 0 0 1:=⟨by kernel_rfl⟩
instance :Fld prog 33 1 1 4:=⟨by kernel_rfl⟩
instance :Typ prog 34 1 false:=⟨by kernel_rfl⟩
instance :Elm prog 34 121 13 128:=⟨by kernel_rfl,by decide⟩
instance :Typ prog 36 25 true:=⟨by kernel_rfl⟩
instance :Zer prog 36 [.v (.int .i64 0), .v (.int .i64 0), .v (.int .i64 0), .v (.int .i64 0), .v (.int .i64 0), .v (.int .i64 0), .v (.int .i64 0), .v (.int .i64 0), .v (.int .i64 0), .v (.int .i64 0), .v (.int .i64 0), .v (.string ⟨#[]⟩), .v (.string ⟨#[]⟩), .v (.slice none 0 0), .v (.bool false), .v (.int .i64 0), .v (.int .i64 0), .v (.int .i64 0), .v (.int .i64 0), .v (.int .i64 0), .v (.slice none 0 0), .v (.slice none 0 0), .v (.int .i64 0), .v (.slice none 0 0), .v (.int .i64 0)]:=⟨[.int .i64 0, .int .i64 0, .int .i64 0, .int .i64 0, .int .i64 0, .int .i64 0, .int .i64 0, .int .i64 0, .int .i64 0, .int .i64 0, .int .i64 0, .string ⟨#[]⟩, .string ⟨#[]⟩, .slice none 0 0, .bool false, .int .i64 0, .int .i64 0, .int .i64 0, .int .i64 0, .int .i64 0, .slice none 0 0, .slice none 0 0, .int .i64 0, .slice none 0 0, .int .i64 0],by kernel_rfl,rfl,rfl⟩
instance :Plc prog 36 [(0,1),(1,14),(15,7),(22,1),(23,1),(24,1)]:=⟨by kernel_rfl⟩
instance :Fld prog 36 0 0 1:=⟨by kernel_rfl⟩
instance :Fld prog 36 1 1 14:=⟨by kernel_rfl⟩
instance :Fld prog 36 2 15 7:=⟨by kernel_rfl⟩
instance :Fld prog 36 3 22 1:=⟨by kernel_rfl⟩
instance :Fld prog 36 4 23 1:=⟨by kernel_rfl⟩
instance :Fld prog 36 5 24 1:=⟨by kernel_rfl⟩
instance :Typ prog 37 1 false:=⟨by kernel_rfl⟩
instance :Elm prog 37 148 2 32:=⟨by kernel_rfl,by decide⟩
instance :Typ prog 39 1 true:=⟨by kernel_rfl⟩
instance :Zer prog 39 [.v (.slice none 0 0)]:=⟨[.slice none 0 0],by kernel_rfl,rfl,rfl⟩
instance :Plc prog 39 [(0,1)]:=⟨by kernel_rfl⟩
instance :Fld prog 39 0 0 1:=⟨by kernel_rfl⟩
instance :Typ prog 40 1 false:=⟨by kernel_rfl⟩
instance :Elm prog 40 185 3 24:=⟨by kernel_rfl,by decide⟩
instance :Typ prog 42 2 true:=⟨by kernel_rfl⟩
instance :Zer prog 42 [.v (.slice none 0 0), .v (.slice none 0 0)]:=⟨[.slice none 0 0, .slice none 0 0],by kernel_rfl,rfl,rfl⟩
instance :Plc prog 42 [(0,1),(1,1)]:=⟨by kernel_rfl⟩
instance :Fld prog 42 0 0 1:=⟨by kernel_rfl⟩
instance :Fld prog 42 1 1 1:=⟨by kernel_rfl⟩
instance :Elm prog 43 29 14 144:=⟨by kernel_rfl,by decide⟩
instance :Typ prog 45 3 true:=⟨by kernel_rfl⟩
instance :Zer prog 45 [.v (.int .i64 0), .v (.int .i64 0), .v (.slice none 0 0)]:=⟨[.int .i64 0, .int .i64 0, .slice none 0 0],by kernel_rfl,rfl,rfl⟩
instance :Plc prog 45 [(0,1),(1,1),(2,1)]:=⟨by kernel_rfl⟩
instance :Typ prog 47 5 true:=⟨by kernel_rfl⟩
instance :Zer prog 47 [.v (.slice none 0 0), .v (.slice none 0 0), .v (.int .i64 0), .v (.int .i64 0), .v (.slice none 0 0)]:=⟨[.slice none 0 0, .slice none 0 0, .int .i64 0, .int .i64 0, .slice none 0 0],by kernel_rfl,rfl,rfl⟩
instance :Plc prog 47 [(0,2),(2,3)]:=⟨by kernel_rfl⟩
instance :Fld prog 47 0 0 2:=⟨by kernel_rfl⟩
instance :Elm prog 48 248 7 64:=⟨by kernel_rfl,by decide⟩
instance :Typ prog 54 1 false:=⟨by kernel_rfl⟩
instance :Elm prog 54 83 8 96:=⟨by kernel_rfl,by decide⟩
instance :Typ prog 57 1 false:=⟨by kernel_rfl⟩
instance :Elm prog 57 4 1 1:=⟨by kernel_rfl,by decide⟩
instance :Typ prog 61 1 false:=⟨by kernel_rfl⟩
instance :Elm prog 61 93 6 56:=⟨by kernel_rfl,by decide⟩
instance :Typ prog 63 2 true:=⟨by kernel_rfl⟩
instance :Zer prog 63 [.v (.slice none 0 0), .v (.slice none 0 0)]:=⟨[.slice none 0 0, .slice none 0 0],by kernel_rfl,rfl,rfl⟩
instance :Plc prog 63 [(0,1),(1,1)]:=⟨by kernel_rfl⟩
instance :Fld prog 63 0 0 1:=⟨by kernel_rfl⟩
instance :Fld prog 63 1 1 1:=⟨by kernel_rfl⟩
instance :Typ prog 67 3 true:=⟨by kernel_rfl⟩
instance :Zer prog 67 [.v (.bool false), .v (.int .i64 0), .v (.string ⟨#[]⟩)]:=⟨[.bool false, .int .i64 0, .string ⟨#[]⟩],by kernel_rfl,rfl,rfl⟩
instance :Plc prog 67 [(0,1),(1,1),(2,1)]:=⟨by kernel_rfl⟩
instance :Fld prog 67 0 0 1:=⟨by kernel_rfl⟩
instance :Fld prog 67 1 1 1:=⟨by kernel_rfl⟩
instance :Fld prog 67 2 2 1:=⟨by kernel_rfl⟩
instance :Typ prog 80 1 false:=⟨by kernel_rfl⟩
instance :Typ prog 81 1 false:=⟨by kernel_rfl⟩
instance :Elm prog 81 115 5 48:=⟨by kernel_rfl,by decide⟩
instance :Typ prog 83 8 true:=⟨by kernel_rfl⟩
instance :Zer prog 83 [.v (.int .i64 0), .v (.int .i64 0), .v (.int .u64 0), .v (.slice none 0 0), .v (.int .i64 0), .v (.string ⟨#[]⟩), .v (.int .i64 0), .v (.string ⟨#[]⟩)]:=⟨[.int .i64 0, .int .i64 0, .int .u64 0, .slice none 0 0, .int .i64 0, .string ⟨#[]⟩, .int .i64 0, .string ⟨#[]⟩],by kernel_rfl,rfl,rfl⟩
instance :Plc prog 83 [(0,1),(1,1),(2,1),(3,1),(4,1),(5,1),(6,1),(7,1)]:=⟨by kernel_rfl⟩
instance :Fld prog 83 0 0 1:=⟨by kernel_rfl⟩
instance :Fld prog 83 1 1 1:=⟨by kernel_rfl⟩
instance :Fld prog 83 2 2 1:=⟨by kernel_rfl⟩
instance :Fld prog 83 3 3 1:=⟨by kernel_rfl⟩
instance :Fld prog 83 4 4 1:=⟨by kernel_rfl⟩
instance :Fld prog 83 5 5 1:=⟨by kernel_rfl⟩
instance :Fld prog 83 6 6 1:=⟨by kernel_rfl⟩
instance :Fld prog 83 7 7 1:=⟨by kernel_rfl⟩
instance :Typ prog 93 6 true:=⟨by kernel_rfl⟩
instance :Zer prog 93 [.v (.int .i64 0), .v (.int .i64 0), .v (.int .i64 0), .v (.string ⟨#[]⟩), .v (.int .i64 0), .v (.int .i64 0)]:=⟨[.int .i64 0, .int .i64 0, .int .i64 0, .string ⟨#[]⟩, .int .i64 0, .int .i64 0],by kernel_rfl,rfl,rfl⟩
instance :Plc prog 93 [(0,1),(1,2),(3,1),(4,2)]:=⟨by kernel_rfl⟩
instance :Fld prog 93 0 0 1:=⟨by kernel_rfl⟩
instance :Fld prog 93 1 1 2:=⟨by kernel_rfl⟩
instance :Fld prog 93 2 3 1:=⟨by kernel_rfl⟩
instance :Fld prog 93 3 4 2:=⟨by kernel_rfl⟩
instance :Zer prog 105 [.v (.slice none 0 0), .v (.int .i64 0)]:=⟨[.slice none 0 0, .int .i64 0],by kernel_rfl,rfl,rfl⟩
instance :Plc prog 105 [(0,1),(1,1)]:=⟨by kernel_rfl⟩
instance :Fld prog 105 0 0 1:=⟨by kernel_rfl⟩
instance :Fld prog 105 1 1 1:=⟨by kernel_rfl⟩
instance :Typ prog 115 5 true:=⟨by kernel_rfl⟩
instance :Zer prog 115 [.v (.int .i64 0), .v (.int .i64 0), .v (.int .i64 0), .v (.string ⟨#[]⟩), .v (.int .i64 0)]:=⟨[.int .i64 0, .int .i64 0, .int .i64 0, .string ⟨#[]⟩, .int .i64 0],by kernel_rfl,rfl,rfl⟩
instance :Plc prog 115 [(0,1),(1,1),(2,1),(3,1),(4,1)]:=⟨by kernel_rfl⟩
instance :Fld prog 115 0 0 1:=⟨by kernel_rfl⟩
instance :Fld prog 115 1 1 1:=⟨by kernel_rfl⟩
instance :Fld prog 115 2 2 1:=⟨by kernel_rfl⟩
instance :Fld prog 115 3 3 1:=⟨by kernel_rfl⟩
instance :Fld prog 115 4 4 1:=⟨by kernel_rfl⟩
instance :Typ prog 121 13 true:=⟨by kernel_rfl⟩
instance :Zer prog 121 [.v (.string ⟨#[]⟩), .v (.string ⟨#[]⟩), .v (.int .i64 0), .v (.int .i64 0), .v (.string ⟨#[]⟩), .v (.int .i64 0), .v (.int .i64 0), .v (.int .i64 0), .v (.int .i64 0), .v (.int .i64 0), .v (.int .i64 0), .v (.int .i64 0), .v (.int .i64 0)]:=⟨[.string ⟨#[]⟩, .string ⟨#[]⟩, .int .i64 0, .int .i64 0, .string ⟨#[]⟩, .int .i64 0, .int .i64 0, .int .i64 0, .int .i64 0, .int .i64 0, .int .i64 0, .int .i64 0, .int .i64 0],by kernel_rfl,rfl,rfl⟩
instance :Plc prog 121 [(0,1),(1,1),(2,2),(4,1),(5,2),(7,1),(8,1),(9,1),(10,1),(11,1),(12,1)]:=⟨by kernel_rfl⟩
instance :Fld prog 121 2 2 2:=⟨by kernel_rfl⟩
instance :Fld prog 121 3 4 1:=⟨by kernel_rfl⟩
instance :Fld prog 121 4 5 2:=⟨by kernel_rfl⟩
instance :Fld prog 121 6 8 1:=⟨by kernel_rfl⟩
instance :Fld prog 121 8 10 1:=⟨by kernel_rfl⟩
instance :Fld prog 121 9 11 1:=⟨by kernel_rfl⟩
instance :Fld prog 121 10 12 1:=⟨by kernel_rfl⟩
instance :Typ prog 125 1 false:=⟨by kernel_rfl⟩
instance :Typ prog 146 1 false:=⟨by kernel_rfl⟩
instance :Elm prog 146 151 8 88:=⟨by kernel_rfl,by decide⟩
instance :Typ prog 148 2 true:=⟨by kernel_rfl⟩
instance :Zer prog 148 [.v (.int .i64 0), .v (.slice none 0 0)]:=⟨[.int .i64 0, .slice none 0 0],by kernel_rfl,rfl,rfl⟩
instance :Plc prog 148 [(0,1),(1,1)]:=⟨by kernel_rfl⟩
instance :Fld prog 148 0 0 1:=⟨by kernel_rfl⟩
instance :Fld prog 148 1 1 1:=⟨by kernel_rfl⟩
instance :Typ prog 149 1 false:=⟨by kernel_rfl⟩
instance :Elm prog 149 234 2 24:=⟨by kernel_rfl,by decide⟩
instance :Typ prog 151 8 true:=⟨by kernel_rfl⟩
instance :Zer prog 151 [.v (.int .i64 0), .v (.int .i64 0), .v (.int .i64 0), .v (.int .i64 0), .v (.int .i64 0), .v (.int .i64 0), .v (.string ⟨#[]⟩), .v (.slice none 0 0)]:=⟨[.int .i64 0, .int .i64 0, .int .i64 0, .int .i64 0, .int .i64 0, .int .i64 0, .string ⟨#[]⟩, .slice none 0 0],by kernel_rfl,rfl,rfl⟩
instance :Plc prog 151 [(0,1),(1,1),(2,1),(3,1),(4,1),(5,1),(6,1),(7,1)]:=⟨by kernel_rfl⟩
instance :Fld prog 151 0 0 1:=⟨by kernel_rfl⟩
instance :Fld prog 151 1 1 1:=⟨by kernel_rfl⟩
instance :Fld prog 151 2 2 1:=⟨by kernel_rfl⟩
instance :Fld prog 151 3 3 1:=⟨by kernel_rfl⟩
instance :Fld prog 151 4 4 1:=⟨by kernel_rfl⟩
instance :Fld prog 151 5 5 1:=⟨by kernel_rfl⟩
instance :Fld prog 151 6 6 1:=⟨by kernel_rfl⟩
instance :Fld prog 151 7 7 1:=⟨by kernel_rfl⟩
instance :Zer prog 176 [.v (.int .i64 0), .v (.int .i64 0), .v (.int .i64 0), .v (.int .i64 0)]:=⟨[.int .i64 0, .int .i64 0, .int .i64 0, .int .i64 0],by kernel_rfl,rfl,rfl⟩
instance :Plc prog 176 [(0,2),(2,2)]:=⟨by kernel_rfl⟩
instance :Typ prog 185 3 true:=⟨by kernel_rfl⟩
instance :Zer prog 185 [.v (.int .i64 0), .v (.int .i64 0), .v (.int .i64 0)]:=⟨[.int .i64 0, .int .i64 0, .int .i64 0],by kernel_rfl,rfl,rfl⟩
instance :Plc prog 185 [(0,1),(1,2)]:=⟨by kernel_rfl⟩
instance :Fld prog 185 0 0 1:=⟨by kernel_rfl⟩
instance :Fld prog 185 1 1 2:=⟨by kernel_rfl⟩
instance :Typ prog 200 8 true:=⟨by kernel_rfl⟩
instance :Zer prog 200 [.v (.int .i64 0), .v (.int .i64 0), .v (.string ⟨#[]⟩), .v (.int .i64 0), .v (.int .i64 0), .v (.bool false), .v (.bool false), .v (.string ⟨#[]⟩)]:=⟨[.int .i64 0, .int .i64 0, .string ⟨#[]⟩, .int .i64 0, .int .i64 0, .bool false, .bool false, .string ⟨#[]⟩],by kernel_rfl,rfl,rfl⟩
instance :Plc prog 200 [(0,2),(2,1),(3,2),(5,1),(6,1),(7,1)]:=⟨by kernel_rfl⟩
instance :Fld prog 200 0 0 2:=⟨by kernel_rfl⟩
instance :Fld prog 200 1 2 1:=⟨by kernel_rfl⟩
instance :Fld prog 200 2 3 2:=⟨by kernel_rfl⟩
instance :Fld prog 200 3 5 1:=⟨by kernel_rfl⟩
instance :Fld prog 200 4 6 1:=⟨by kernel_rfl⟩
instance :Fld prog 200 5 7 1:=⟨by kernel_rfl⟩
instance :Typ prog 234 2 true:=⟨by kernel_rfl⟩
instance :Zer prog 234 [.v (.string ⟨#[]⟩), .v (.int .i64 0)]:=⟨[.string ⟨#[]⟩, .int .i64 0],by kernel_rfl,rfl,rfl⟩
instance :Plc prog 234 [(0,1),(1,1)]:=⟨by kernel_rfl⟩
instance :Fld prog 234 0 0 1:=⟨by kernel_rfl⟩
instance :Fld prog 234 1 1 1:=⟨by kernel_rfl⟩
instance :Zer prog 248 [.v (.int .i64 0), .v (.int .i64 0), .v (.string ⟨#[]⟩), .v (.int .i64 0), .v (.int .i64 0), .v (.int .i64 0), .v (.int .i64 0)]:=⟨[.int .i64 0, .int .i64 0, .string ⟨#[]⟩, .int .i64 0, .int .i64 0, .int .i64 0, .int .i64 0],by kernel_rfl,rfl,rfl⟩
instance :Plc prog 248 [(0,2),(2,1),(3,2),(5,2)]:=⟨by kernel_rfl⟩
instance :Elm prog 274 125 1 8:=⟨by kernel_rfl,by decide⟩
instance :Typ prog 282 11 true:=⟨by kernel_rfl⟩
instance :Zer prog 282 [.v (.slice none 0 0), .v (.slice none 0 0), .v (.slice none 0 0), .v (.int .i64 0), .v (.int .i64 0), .v (.int .i64 0), .v (.int .i64 0), .v (.string ⟨#[]⟩), .v (.bool false), .v (.bool false), .v (.int .i64 0)]:=⟨[.slice none 0 0, .slice none 0 0, .slice none 0 0, .int .i64 0, .int .i64 0, .int .i64 0, .int .i64 0, .string ⟨#[]⟩, .bool false, .bool false, .int .i64 0],by kernel_rfl,rfl,rfl⟩
instance :Plc prog 282 [(0,2),(2,1),(3,2),(5,2),(7,1),(8,1),(9,1),(10,1)]:=⟨by kernel_rfl⟩
instance :Fld prog 282 0 0 2:=⟨by kernel_rfl⟩
instance :Fld prog 282 1 2 1:=⟨by kernel_rfl⟩
instance :Fld prog 282 2 3 2:=⟨by kernel_rfl⟩
instance :Fld prog 282 3 5 2:=⟨by kernel_rfl⟩
instance :Fld prog 282 4 7 1:=⟨by kernel_rfl⟩
instance :Fld prog 282 5 8 1:=⟨by kernel_rfl⟩
instance :Fld prog 282 6 9 1:=⟨by kernel_rfl⟩
instance :Fld prog 282 7 10 1:=⟨by kernel_rfl⟩
instance :Fun prog 12:=⟨by kernel_rfl⟩
instance :Fun prog 16:=⟨by kernel_rfl⟩
instance :Fun prog 20:=⟨by kernel_rfl⟩
instance :Fun prog 21:=⟨by kernel_rfl⟩
instance :Fun prog 22:=⟨by kernel_rfl⟩
instance :Fun prog 24:=⟨by kernel_rfl⟩
instance :Fun prog 26:=⟨by kernel_rfl⟩
instance :Fun prog 32:=⟨by kernel_rfl⟩
instance :Fun prog 34:=⟨by kernel_rfl⟩
instance :Fun prog 35:=⟨by kernel_rfl⟩
instance :Fun prog 40:=⟨by kernel_rfl⟩
instance :Fun prog 41:=⟨by kernel_rfl⟩
instance :Fun prog 43:=⟨by kernel_rfl⟩
instance :Fun prog 44:=⟨by kernel_rfl⟩
instance :Fun prog 46:=⟨by kernel_rfl⟩
instance :Fun prog 47:=⟨by kernel_rfl⟩
instance :Fun prog 54:=⟨by kernel_rfl⟩
instance :Fun prog 55:=⟨by kernel_rfl⟩
instance :Fun prog 56:=⟨by kernel_rfl⟩
instance :Fun prog 57:=⟨by kernel_rfl⟩
instance :Fun prog 58:=⟨by kernel_rfl⟩
instance :Fun prog 59:=⟨by kernel_rfl⟩
instance :Fun prog 60:=⟨by kernel_rfl⟩
instance :Fun prog 61:=⟨by kernel_rfl⟩
instance :Fun prog 62:=⟨by kernel_rfl⟩
instance :Fun prog 63:=⟨by kernel_rfl⟩
instance :Fun prog 64:=⟨by kernel_rfl⟩
instance :Fun prog 66:=⟨by kernel_rfl⟩
instance :Fun prog 67:=⟨by kernel_rfl⟩
instance :Fun prog 70:=⟨by kernel_rfl⟩
instance :Fun prog 71:=⟨by kernel_rfl⟩
instance :Fun prog 72:=⟨by kernel_rfl⟩
instance :Fun prog 73:=⟨by kernel_rfl⟩
instance :Fun prog 75:=⟨by kernel_rfl⟩
instance :Fun prog 76:=⟨by kernel_rfl⟩
instance :Fun prog 78:=⟨by kernel_rfl⟩
instance :Fun prog 81:=⟨by kernel_rfl⟩
instance :Fun prog 82:=⟨by kernel_rfl⟩
instance :Fun prog 83:=⟨by kernel_rfl⟩
instance :Fun prog 84:=⟨by kernel_rfl⟩
instance :Fun prog 85:=⟨by kernel_rfl⟩
instance :Fun prog 86:=⟨by kernel_rfl⟩
instance :Fun prog 87:=⟨by kernel_rfl⟩
instance :Fun prog 88:=⟨by kernel_rfl⟩
instance :Fun prog 89:=⟨by kernel_rfl⟩
instance :Fun prog 90:=⟨by kernel_rfl⟩
instance :Fun prog 91:=⟨by kernel_rfl⟩
instance :Fun prog 100:=⟨by kernel_rfl⟩
instance :Fun prog 102:=⟨by kernel_rfl⟩
instance :Fun prog 104:=⟨by kernel_rfl⟩
instance :Fun prog 105:=⟨by kernel_rfl⟩
instance :Fun prog 106:=⟨by kernel_rfl⟩
instance :Fun prog 107:=⟨by kernel_rfl⟩
instance :Fun prog 108:=⟨by kernel_rfl⟩
instance :Fun prog 109:=⟨by kernel_rfl⟩
instance :Fun prog 110:=⟨by kernel_rfl⟩
instance :Fun prog 111:=⟨by kernel_rfl⟩
instance :Fun prog 112:=⟨by kernel_rfl⟩
instance :Fun prog 113:=⟨by kernel_rfl⟩
instance :Fun prog 116:=⟨by kernel_rfl⟩
instance :Fun prog 117:=⟨by kernel_rfl⟩
instance :Fun prog 118:=⟨by kernel_rfl⟩
instance :Fun prog 119:=⟨by kernel_rfl⟩
instance :Fun prog 120:=⟨by kernel_rfl⟩
instance :Fun prog 122:=⟨by kernel_rfl⟩
instance :Fun prog 123:=⟨by kernel_rfl⟩
instance :Fun prog 124:=⟨by kernel_rfl⟩
instance :Fun prog 125:=⟨by kernel_rfl⟩
instance :Fun prog 126:=⟨by kernel_rfl⟩
instance :Fun prog 127:=⟨by kernel_rfl⟩
instance :Fun prog 128:=⟨by kernel_rfl⟩
instance :Fun prog 129:=⟨by kernel_rfl⟩
instance :Fun prog 130:=⟨by kernel_rfl⟩
instance :Fun prog 131:=⟨by kernel_rfl⟩
instance :Fun prog 132:=⟨by kernel_rfl⟩
instance :Fun prog 133:=⟨by kernel_rfl⟩
instance :Fun prog 134:=⟨by kernel_rfl⟩
instance :Fun prog 136:=⟨by kernel_rfl⟩
instance :Fun prog 141:=⟨by kernel_rfl⟩
instance :Fun prog 154:=⟨by kernel_rfl⟩
instance :Fun prog 155:=⟨by kernel_rfl⟩
instance :Fun prog 156:=⟨by kernel_rfl⟩
instance :Fun prog 157:=⟨by kernel_rfl⟩
instance :Fun prog 158:=⟨by kernel_rfl⟩
instance :Fun prog 159:=⟨by kernel_rfl⟩
instance :Fun prog 160:=⟨by kernel_rfl⟩
instance :Fun prog 161:=⟨by kernel_rfl⟩
instance :Fun prog 166:=⟨by kernel_rfl⟩
instance :Fun prog 167:=⟨by kernel_rfl⟩
instance :Fun prog 168:=⟨by kernel_rfl⟩
instance :Fun prog 169:=⟨by kernel_rfl⟩
instance :Fun prog 172:=⟨by kernel_rfl⟩
instance :Fun prog 173:=⟨by kernel_rfl⟩
instance :Fun prog 174:=⟨by kernel_rfl⟩
instance :Fun prog 175:=⟨by kernel_rfl⟩
instance :Fun prog 176:=⟨by kernel_rfl⟩
instance :Fun prog 177:=⟨by kernel_rfl⟩
instance :Fun prog 178:=⟨by kernel_rfl⟩
instance :Fun prog 179:=⟨by kernel_rfl⟩
instance :Fun prog 180:=⟨by kernel_rfl⟩
instance :Fun prog 181:=⟨by kernel_rfl⟩
instance :Fun prog 182:=⟨by kernel_rfl⟩
instance :Fun prog 183:=⟨by kernel_rfl⟩
instance :Fun prog 184:=⟨by kernel_rfl⟩
instance :Fun prog 185:=⟨by kernel_rfl⟩
instance :Fun prog 187:=⟨by kernel_rfl⟩
instance :Fun prog 188:=⟨by kernel_rfl⟩
instance :Fun prog 191:=⟨by kernel_rfl⟩
instance :Fun prog 192:=⟨by kernel_rfl⟩
instance :Fun prog 193:=⟨by kernel_rfl⟩
instance :Fun prog 194:=⟨by kernel_rfl⟩
instance :Fun prog 195:=⟨by kernel_rfl⟩
instance :Fun prog 196:=⟨by kernel_rfl⟩
instance :Fun prog 215:=⟨by kernel_rfl⟩
instance :Fun prog 216:=⟨by kernel_rfl⟩
instance :Fun prog 217:=⟨by kernel_rfl⟩
instance :Fun prog 218:=⟨by kernel_rfl⟩
instance :Fun prog 219:=⟨by kernel_rfl⟩
instance :Fun prog 220:=⟨by kernel_rfl⟩
instance :Fun prog 221:=⟨by kernel_rfl⟩
instance :Fun prog 222:=⟨by kernel_rfl⟩
instance :Fun prog 223:=⟨by kernel_rfl⟩
instance :Fun prog 226:=⟨by kernel_rfl⟩
instance :Fun prog 227:=⟨by kernel_rfl⟩
instance :Fun prog 229:=⟨by kernel_rfl⟩
instance :Fun prog 230:=⟨by kernel_rfl⟩
instance :Fun prog 231:=⟨by kernel_rfl⟩
instance :Fun prog 232:=⟨by kernel_rfl⟩
instance :Fun prog 233:=⟨by kernel_rfl⟩
instance :Fun prog 234:=⟨by kernel_rfl⟩
instance :Fun prog 235:=⟨by kernel_rfl⟩
instance :Fun prog 236:=⟨by kernel_rfl⟩
instance :Fun prog 237:=⟨by kernel_rfl⟩
instance :Fun prog 240:=⟨by kernel_rfl⟩
instance :Fun prog 241:=⟨by kernel_rfl⟩
instance :Fun prog 242:=⟨by kernel_rfl⟩
instance :Fun prog 243:=⟨by kernel_rfl⟩
instance :Fun prog 244:=⟨by kernel_rfl⟩
instance :Fun prog 246:=⟨by kernel_rfl⟩
instance :Fun prog 247:=⟨by kernel_rfl⟩
instance :Fun prog 248:=⟨by kernel_rfl⟩
instance :Fun prog 254:=⟨by kernel_rfl⟩
instance :Fun prog 255:=⟨by kernel_rfl⟩
instance :Fun prog 256:=⟨by kernel_rfl⟩
instance :Fun prog 257:=⟨by kernel_rfl⟩
instance :Fun prog 258:=⟨by kernel_rfl⟩
instance :Fun prog 262:=⟨by kernel_rfl⟩
instance :Fun prog 264:=⟨by kernel_rfl⟩
instance :Fun prog 265:=⟨by kernel_rfl⟩
instance :Fun prog 266:=⟨by kernel_rfl⟩
instance :Fun prog 267:=⟨by kernel_rfl⟩
instance :Fun prog 268:=⟨by kernel_rfl⟩
instance :Fun prog 280:=⟨by kernel_rfl⟩
end Go.Proofs.YtbgnigjfkbmceaaGreatDoor
namespace Go.Proofs.YtbgnigjfkbmceaaGreatDoor
abbrev AJ:=ByteArray
abbrev AB:=Int×Int
abbrev BK:=AJ×Int
abbrev DF:=Int×AB
abbrev Kg:=AB×AJ×AB×AB
structure Nod where
 ino:Int
 kind:Int
 mode:Int
 uid:Int
 gid:Int
 parent:Int
 target:AJ
 entries:List BK
structure Dvc where
 next:Int
 nodes:List Nod
abbrev Ac:=List Dvc
structure Spc where
 files:Ac
 mounts:List DF
def Nod.zero:Nod:=⟨0,0,0,0,0,0,⟨#[]⟩,[]⟩
def J4{α:Type}(p:α→Bool)(l:List α):Int:=
 match l.findIdx? p with
 |some i=>(i:Int)
 |none=> -1
def F2{α:Type}(l:List α)(i:Int):Option α:=if i<0 then none else l[i.toNat]?
theorem J5{α:Type}(l:List α)(k:Nat):F2 l (k:Int)=l[k]?:=by
 simp[F2,show¬((k:Int)<0) by omega]
theorem Mh{α:Type}{l:List α}{i:Int}(h:i<0∨(l.length:Int)≤i):F2 l i=none:=by
 unfold F2;split
 ·rfl
 rw[List.getElem?_eq_none];omega
theorem Vv{α:Type}{l:List α}{i:Int}{x:α}(h:F2 l i=some x):0≤i∧i<l.length∧l[i.toNat]?=some x:=by
 unfold F2 at h;split at h
 ·cases h
 have:=(Al.1 h).1;exact⟨by omega,by omega,h⟩
theorem RO{α:Type}{p:α→Bool}{l:List α}{m:Nat}{x:α}(hx:l[m]?=some x)(hp:p x=true)(h:∀j y,j<m→l[j]?=some y→p y=false):l.findIdx? p=some m:=by
 have hl:m<l.length:=(Al.1 hx).1;rw[List.findIdx?_eq_some_iff_getElem];refine⟨hl,by rw[(Al.1 hx).2];exact hp,fun j hj=>?_⟩;have:=h j l[j] hj (BQ _);simp[this]
theorem RP{α:Type}{p:α→Bool}{l:List α}{m:Nat}{x:α}(hx:l[m]?=some x)(hp:p x=true)(h:∀j y,j<m→l[j]?=some y→p y=false):J4 p l=m:=by
 unfold J4;rw[RO hx hp h]
theorem Vw{α:Type}{p:α→Bool}{l:List α}(h:∀j y,j<l.length→l[j]?=some y→p y=false):J4 p l= -1:=by
 unfold J4;rw[List.findIdx?_eq_none_iff.2];intro x hx;obtain⟨j,hj,rfl⟩:=List.mem_iff_getElem.1 hx;exact h j _ hj (BQ hj)
theorem FS{α:Type}{P:α→Prop}{l:List α}{m:Nat}{x:α}(hx:l[m]?=some x)(h:∀j y,j<m→l[j]?=some y→P y)(hp:P x):∀j y,j<m+1→l[j]?=some y→P y:=by
 intro j y hj hy;by_cases e:j=m
 ·subst e;rw[hx]at hy;cases hy;exact hp
 exact h j y (by omega) hy
def EK(f:Ac)(at_:AB):Int:=
 match F2 f at_.1 with
 |none=> -1
 |some d=>J4 (fun n:Nod=>n.ino==at_.2) d.nodes
def Bp(f:Ac)(at_:AB):Option Nod:=
 match F2 f at_.1 with
 |none=>none
 |some d=>d.nodes.find? (fun n:Nod=>n.ino==at_.2)
theorem RQ{α:Type}{p:α→Bool}{l:List α}:(l.findIdx? p).bind (fun i=>l[i]?)=l.find? p:=by
 cases h:l.findIdx? p with
 |none=>
   rw[List.findIdx?_eq_none_iff]at h;simp only[Option.bind_none];exact(List.find?_eq_none.2 (fun x hx=>by simp[h x hx])).symm
 |some i=>
   obtain⟨hi,hp,hf⟩:=List.findIdx?_eq_some_iff_getElem.1 h;simp only[Option.bind_some,BQ hi];exact(List.find?_eq_some_iff_getElem.2 ⟨hp,i,hi,rfl,fun j hj=>by simpa using hf j hj⟩).symm
theorem GT(f:Ac)(at_:AB):(EK f at_= -1∧Bp f at_=none)∨
    ∃(k i:Nat) (d:Dvc) (n:Nod),at_.1=k∧f[k]?=some d∧d.nodes[i]?=some n∧n.ino=at_.2∧EK f at_=i∧Bp f at_=some n:=by
 unfold EK Bp
 cases h:F2 f at_.1 with
 |none=>exact .inl ⟨rfl,rfl⟩
 |some d=>
   obtain⟨h0,h1,h2⟩:=Vv h;simp only[←RQ];unfold J4
   cases hi:d.nodes.findIdx? (fun n:Nod=>n.ino==at_.2)with
   |none=>exact .inl ⟨rfl,rfl⟩
   |some i=>
     obtain⟨hl,hp,_⟩:=List.findIdx?_eq_some_iff_getElem.1 hi;exact .inr ⟨at_.1.toNat,i,d,d.nodes[i],by omega,h2,BQ hl,by simpa using hp,rfl,by simp⟩
theorem Mi(a b:AJ):(a.toList==b.toList)=decide (a=b):=by
 rw[ByteArray.toList_eq,ByteArray.toList_eq,Bool.eq_iff_iff];simp only[beq_iff_eq,decide_eq_true_eq];constructor
 ·intro h
  cases a with
  |mk a=>
    cases b with
    |mk b=>exact congrArg ByteArray.mk (Array.toList_inj.1 h)
 intro h;rw[h]
def GU(c:UInt8):Bool:= !((c.toNat:Int)==0)&& !((c.toNat:Int)==47)
def Cq(s:AJ):Bool:=
 if s.size<1∨12<s.size then false else if(s.toList==[46])=true then false else if(s.toList==[46,46])=true then false else s.data.toList.all GU
def J6(s:AJ):Bool:=s.data.toList.all (fun c=> !((c.toNat:Int)==0))&&decide (1≤s.size)&&decide (s.size≤128)
theorem RR{p:UInt8→Bool}{s:AJ}(h:∀j (hj:j<s.size),p s[j]=true):s.data.toList.all p=true:=by
 rw[List.all_eq_true];intro c hc;obtain⟨j,hj,rfl⟩:=List.mem_iff_getElem.1 hc;exact h j (by simpa using hj)
theorem OX{p:UInt8→Bool}{s:AJ}{j:Nat}(hj:j<s.size)(h:p s[j]=false):s.data.toList.all p=false:=by
 rw[List.all_eq_false];refine⟨s[j],?_,by simp[h]⟩;have:s[j]=s.data.toList[j]'(by simpa using hj):=rfl;rw[this];exact List.getElem_mem _
theorem RS{p:UInt8→Bool}{s:AJ}{m:Nat}(hm:m<s.size)(h:∀j (hj:j<s.size),j<m→p s[j]=true)(hp:p s[m]=true):∀j (hj:j<s.size),j<m+1→p s[j]=true:=by
 intro j hj hlt;by_cases e:j=m
 ·subst e;exact hp
 exact h j hj (by omega)
def Aq(f:Ac)(at_:AB):Bool:=
 match Bp f at_ with
 |none=>false
 |some n=>n.kind==2
def CJ(f:Ac)(dir:AB)(name:AJ):Int:=
 match Bp f dir with
 |none=>2
 |some n=>if n.kind=2 then(if Cq name then 0 else 22)else 20
def GV(f:Ac)(dir:AB):Bool:=
 match Bp f dir with
 |none=>false
 |some n=>decide (12≤n.entries.length)
def H8(f:Ac)(dir:AB):Bool:=
 match Bp f dir with
 |none=>true
 |some n=>decide (n.entries.length=0)
def AQ(f:Ac)(dir:AB)(name:AJ):AB×Int:=
 match Bp f dir with
 |none=>((0,0),2)
 |some n=>if n.kind=2 then
     match n.entries.find? (fun e:BK=>decide (e.1=name))with
     |none=>((0,0),2)
     |some e=>((dir.1,e.2),0)
   else((0,0),20)
def E9(n:Nod):Bool:=
 if n.kind<1∨3<n.kind∨n.mode<0∨511<n.mode∨n.uid<0∨4294967295<n.uid∨n.gid<0∨4294967295<n.gid then false
 else if n.kind=3 then J6 n.target else n.target.toList.isEmpty
end Go.Proofs.YtbgnigjfkbmceaaGreatDoor
namespace Go.Proofs.YtbgnigjfkbmceaaGreatDoor
def EA(a b:AJ):Bool:=Op.bytesLess a.toList b.toList
def Ef(name:AJ)(ino:Int):Bool→List BK→List BK
 |done,[]=>if done then[]else[(name,ino)]
 |done,e::r=>
   (if !done&& !EA e.1 name then[(name,ino)]else[])++((if e.1=name then[]else[e])++Ef name ino (done|| !EA e.1 name) r)
def CO(es:List BK)(name:AJ)(ino:Int):List BK:=Ef name ino (ino==0) es
def CX(ino:Int)(es:List BK):Nat:=es.countP fun e:BK=>e.2==ino
def BZ(ino:Int)(ns:List Nod):Nat:=CX ino (ns.flatMap fun n=>n.entries)
def FT(f:Ac)(at_:AB):Nat:=
 match Bp f at_,F2 f at_.1 with
 |some _,some d=>BZ at_.2 d.nodes
 |_,_=>0
theorem Mj{ino:Int}{es:List BK}{k:Nat}{e:BK}(h:es[k]?=some e):CX ino (es.take (k+1))=CX ino (es.take k)+(if e.2==ino then 1 else 0):=by
 unfold CX;rw[List.take_add_one,h,List.countP_append];simp[List.countP_cons]
theorem Vx(ino:Int)(es:List BK):CX ino es≤es.length:=List.countP_le_length
theorem Vy{ino:Int}{ns:List Nod}{m:Nat}{n:Nod}(h:ns[m]?=some n):BZ ino (ns.take (m+1))=BZ ino (ns.take m)+CX ino n.entries:=by
 unfold BZ CX;rw[List.take_add_one,h,List.flatMap_append,List.countP_append];simp
def CY(ino:Int)(ns:List Nod):List Nod:=ns.filter fun n=>n.ino != ino
def Mk:Nod:=⟨1,2,493,0,0,1,⟨#[]⟩,[]⟩
def Jb:Dvc:=⟨2,[Mk]⟩
def E3(n:Int):Ac×Int:=if n<1∨3<n then([],50)else(List.replicate n.toNat Jb,0)
abbrev J7:=Ac×List Kg×Int
def Dv(n:Nod)(next dirIno:Int):Nod:=⟨next,n.kind,n.mode,n.uid,n.gid,if n.kind=2 then dirIno else 0,n.target,[]⟩
end Go.Proofs.YtbgnigjfkbmceaaGreatDoor
namespace Go.Proofs.YtbgnigjfkbmceaaGreatDoor
open Go.RowKit
theorem Br{α:Type}(enc:α→List AV){l:List α}{k:Nat}(h:(k:Int)<((l.map enc).length:Int)):k<l.length∧∃x,l[k]?=some x∧(l.map enc)[k]?=some (enc x)∧(l.take (k+1)).map enc=(l.take k).map enc++[enc x]:=by
 have hk:k<l.length:=by simpa using h
 refine⟨hk,l[k],BQ hk,by simp[hk],?_⟩;rw[List.take_succ_eq_append_getElem hk,List.map_append];rfl
theorem C5{α:Type}(enc:α→List AV){l:List α}{k:Nat}(hk:k≤l.length)(h:¬(k:Int)<((l.map enc).length:Int)):k=l.length:=by
 simp at h;omega
theorem vb{a b:Bool}(h:a=b):AV.v (.bool a)=AV.v (.bool b):=by rw[h]
theorem vi{k:IntKind}{a b:Int}(h:a=b):AV.v (.int k a)=AV.v (.int k b):=by rw[h]
def AF(x:AB):List AV:=[.v (.int .i64 x.1), .v (.int .i64 x.2)]
def CK(e:BK):List AV:=[.v (.string e.1), .v (.int .i64 e.2)]
def Ao(n:Nod):List AV:=[.v (.int .i64 n.ino), .v (.int .i64 n.kind), .v (.int .i64 n.mode), .v (.int .i64 n.uid), .v (.int .i64 n.gid), .v (.int .i64 n.parent), .v (.string n.target), .sl 2 (n.entries.map CK) none]
def Bm(d:Dvc):List AV:=[.v (.int .i64 d.next), .sl 8 (d.nodes.map Ao) none]
def As(f:Ac):List AV:=[.sl 2 (f.map Bm) none]
structure FlsB(f:Ac):Prop where
 few:f.length≤1000
 nodes:∀d∈f,d.nodes.length≤1000
 ents:∀d∈f,∀n∈d.nodes,n.entries.length≤1000
theorem OY{f:Ac}{a:AB}{k:Nat}{d:Dvc}(hk:a.1=(k:Int))(hd:f[k]?=some d):EK f a=J4 (fun n:Nod=>n.ino==a.2) d.nodes:=by
 unfold EK;rw[hk,J5,hd]
def At(f:Ac)(a:AB):Nod:=(Bp f a).getD Nod.zero
def Cj(f:Ac)(a:AB):Bool:=(Bp f a).isSome
theorem FU(f:Ac)(a:AB):Aq f a=(Cj f a&&decide ((At f a).kind=2)):=by
 unfold Aq Cj At;cases Bp f a<;>simp[O5]
theorem Kh{f:Ac}(hf:FlsB f)(a:AB):(At f a).entries.length≤1000:=by
 rcases GT f a with⟨-,h⟩|⟨k,i,d,n, -,h1,h2, -, -,h⟩
 ·simp[At,h,Nod.zero]
 simp only[At,h,Option.getD_some];exact hf.ents d (Ar h1) n (Ar h2)
section
theorem H9(f:Ac)(a:AB)(hf:FlsB f):AFn prog 179 [.agg (As f), .agg (AF a)] (fun r=>r= .v (.int .i64 (EK f a))):=by
 refine enter Tryz.func179 rfl rfl rfl rfl rfl 0 rfl ?_;refine w_ (b_ (h:=b_ (h:=a_ (h:=e_ (q_ (w_ (f_ (h:=l_ (h:=B1 (h:=m_ (h:=?_)))))))))));refine AU false rfl rfl (fun hb1=>?_) (fun hb1=>?_)
 ·have hc1:=bp hb1;refine A3 (h:=A3 (h:=A3 (h:=A3 (h:=A3 (h:=A3 (h:=AD (h:=e_ (B6 (h:=w_ (a_ (h:=e_ (A4 (A7 (?_))))))))))))));refine A8 ?_;exact vi (by unfold EK;rw[Mh (.inl hc1)])
 have hc1:=bp hb1;refine f_ (h:=l_ (h:=f_ (h:=l_ (h:=n_ (h:=D4 (h:=AG (h:=e_ (?_))))))));refine A9 rfl (fun hb2=>?_) (fun hb2=>?_)
 ·have hc2:=bp hb2;refine w_ (a_ (h:=e_ (A4 (A7 (?_)))));refine A8 ?_;exact vi (by unfold EK;rw[Mh (.inr (by rw[List.length_map]at hc2;exact hc2))])
 have hc2:=bp hb2;obtain⟨k,hk⟩:=Int.eq_ofNat_of_zero_le (show 0≤a.1 by omega);rw[hk]at hc2;obtain⟨-,d,hd,hrow, -⟩:=Br Bm (l:=f) (k:=k) (by omega);have hdn:=hf.nodes d (Ar hd);refine AA (w_ (f_ (h:=l_ (h:=f_ (h:=l_ (h:=?_))))));refine A6 rfl (Dc (n:=k) rfl rfl hk hrow ?_);refine f_ (h:=l_ (h:=a_ (h:=e_ (q_ (w_ (a_ (h:=e_ (Af (?_)))))))));refine BW (fun m s=>∃j:Nat,j≤d.nodes.length∧m=d.nodes.length - j∧(∀i y,i<j→d.nodes[i]?=some y→(y.ino==a.2)=false)∧s=⟨look [(3, .bp 1 0),(5, .sl 8 (d.nodes.map Ao) none),(6, .v (.int .i64 (j:Int)))],⟨[As f,AF a],[]⟩⟩) (d.nodes.length) ((wk 2 0)) (⟨0,by omega,rfl,fun i y hi=>by omega,rfl⟩) ?_;rintro m s ⟨j,hj,rfl,ha,rfl⟩;refine q_ (w_ (m_ (h:=m_ (h:=n_ (h:=B1 (h:=e_ (?_)))))));refine A9 rfl (fun hb3=>?_) (fun hb3=>?_)
 ·have hc3:=bp hb3;obtain⟨hlt,n,hy,hrow2, -⟩:=Br Ao hc3;refine AA (q_ (Af (q_ (DE 8 (h:=Ap 0 (h:=Ap 1 (h:=Dj 2 (h:=Az 3 (h:=AY 4 (h:=Az 5 (h:=AY 6 (h:=Fh 7 (h:=z_ (h:=t_ (?_)))))))))))))));refine A9 rfl (fun hb4=>?_) (fun hb4=>?_)
  ·have hc4:=bp hb4;refine w_ (m_ (h:=a_ (h:=e_ (A4 (AR (A7 (A7 (AR (A7 (?_))))))))));refine A8 ?_;exact vi (by rw[OY hk hd];exact(RP hy (by simpa using hc4) ha).symm)
  have hc4:=bp hb4;refine Av (Ai (t_ (AT (m_ (h:=B5 (h:=a_ (h:=AP (?_))))))));refine AK ?_;refine⟨_,_,?_,⟨j+1,by omega,rfl,FS hy ha (by simpa using hc4),rfl⟩,(wk 2 0)⟩;omega
 have hc3:=bp hb3;have e:=C5 Ao hj hc3;subst e;refine BH (Ah (Ah (BJ (t_ (w_ (a_ (h:=e_ (A4 (?_)))))))));refine A8 ?_;exact vi (by rw[OY hk hd];exact(Vw (fun i y hi hy=>ha i y hi hy)).symm)
theorem Eg(f:Ac)(a:AB)(hf:FlsB f):AFn prog 123 [.agg (As f), .agg (AF a)] (fun r=>r= .tup [.agg (Ao (At f a)), .v (.bool (Cj f a))]):=by
 refine enter Tryz.func123 rfl rfl rfl rfl rfl 0 rfl ?_;refine w_ (b_ (h:=b_ (h:=Aa (h:=a_ (h:=e_ (w_ (l_ (h:=l_ (h:=?_)))))))));refine A6 rfl (AE (H9 f a hf) ?_);rintro r rfl;refine a_ (h:=e_ (q_ (w_ (m_ (h:=B1 (h:=e_ (?_)))))));refine A9 rfl (fun hb1=>?_) (fun hb1=>?_)
 ·have hc1:=bp hb1
  have e:Bp f a=none:=by
   rcases GT f a with h|⟨k,i,d,n, -, -, -, -,h, -⟩
   ·exact h.2
   exfalso;omega
  refine w_ (Ab (h:=s_ (h:=a_ (h:=e_ (A4 (A7 (?_)))))));refine Am (r:= .tup [.agg (Ao (At f a)), .v (.bool (Cj f a))]) none (h5:=?_) (h6:=⟨rfl,rfl,rfl⟩);rw[show At f a=Nod.zero by simp[At,e],show Cj f a=false by simp[Cj,e]];exact(by repeat (first|exact AZ _|exact LeA.nil _|exact LeL.refl _|refine LeA.agg ?_|refine LeA.tup ?_|exact LeL.nil|refine LeL.cons ?_ ?_|exact LeA.any _))
 have hc1:=bp hb1;obtain⟨k,i,d,n,g1,g2,g3,g4,g5,g6⟩:=(GT f a).resolve_left (fun h=>by omega);rw[g5];have hr1:(f.map Bm)[k]?=some (Bm d):=by rw[List.getElem?_map,g2];rfl
 have hr2:(d.nodes.map Ao)[i]?=some (Ao n):=by rw[List.getElem?_map,g3];rfl
 have hen:=hf.ents d (Ar g2) n (Ar g3);refine AA (w_ (f_ (h:=l_ (h:=f_ (h:=l_ (h:=?_))))));refine A6 rfl (Dc (n:=k) rfl rfl g1 hr1 ?_);refine f_ (h:=l_ (h:=m_ (h:=?_)));refine A6 rfl (Dc (n:=i) rfl rfl rfl hr2 ?_);refine l_ (h:=Aa (h:=s_ (h:=e_ (w_ (f_ (h:=l_ (h:=?_)))))))
 first|refine A6 rfl (E0 rfl rfl rfl (by simp;omega) (by repeat constructor) ?_)|refine A6 rfl (E1 rfl rfl (by simp;omega) (by repeat constructor) ?_)
 refine f_ (h:=s_ (h:=e_ (w_ (l_ (h:=s_ (h:=a_ (h:=e_ (A4 (?_)))))))));refine A8 ?_;rw[show At f a=n by simp[At,g6],show Cj f a=true by simp[Cj,g6]];rfl
theorem GW(f:Ac)(a:AB)(hf:FlsB f):AFn prog 185 [.agg (As f), .agg (AF a)] (fun r=>r= .v (.bool (Aq f a))):=by
 refine enter Tryz.func185 rfl rfl rfl rfl rfl 0 rfl ?_;refine w_ (b_ (h:=b_ (h:=a_ (h:=e_ (w_ (l_ (h:=l_ (h:=?_))))))));refine A6 rfl (AE (Eg f a hf) ?_);rintro r rfl;refine m_ (h:=x_ (h:=x_ (h:=Aa (h:=s_ (h:=a_ (h:=e_ (w_ (m_ (h:=m_ (h:=?_))))))))));refine AU true rfl rfl (fun hb1=>?_) (fun hb1=>?_)
 ·have hc1:=bp hb1;refine f_ (h:=l_ (h:=AN (h:=AD (h:=a_ (h:=e_ (A4 (?_)))))));refine A8 ?_;exact vb (by rw[FU];simp[*])
 have hc1:=bp hb1;refine A3 (h:=A3 (h:=A3 (h:=AG (h:=a_ (h:=e_ (A4 (?_)))))));refine A8 ?_;exact vb (by rw[FU];simp[*])
end
end Go.Proofs.YtbgnigjfkbmceaaGreatDoor
namespace Go.Proofs.YtbgnigjfkbmceaaGreatDoor
structure Tst where
 fld:Int
 op:Int
 num:Int
 text:AJ
 other:Int
structure Rul where
 list:Int
 action:Int
 calls:Int
 tests:List Tst
 watch:Int
 path:AJ
 perm:Int
 key:AJ
structure Itm where
 given:AJ
 path:AJ
 dir:AB
 name:AJ
 file:AB
 role:Int
 kind:Int
 mode:Int
 uid:Int
 gid:Int
 perm:Int
structure Ctx where
 phase:Int
 pid:Int
 ppid:Int
 uid:Int
 euid:Int
 gid:Int
 egid:Int
 auid:Int
 ses:Int
 cwd:AB
 comm:AJ
 exe:AJ
 audited:Bool
 number:Int
 a0:Int
 a1:Int
 a2:Int
 a3:Int
 ext:Int
 items:List Itm
 typ:Int
def Itm.zero:Itm:=⟨⟨#[]⟩,⟨#[]⟩,(0,0),⟨#[]⟩,(0,0),0,0,0,0,0,0⟩
def CC(f:Int):Bool:=decide (1≤f∧f≤8∨f=13∨f=14)
def DG(list f:Int):Bool:=
 if list=1∨list=4 then CC f
 else if list=2 then decide (1≤f∧f≤14)
 else if list=3 then decide (1≤f∧f≤21)
 else if list=5 then decide (1≤f∧f≤8∨f=13∨f=14∨f=22)
 else false
def D5(f:Int):Bool:=decide (f=13∨f=14)
def DH(f:Int):Bool:=decide (f=3∨f=4∨f=5∨f=6∨f=7∨f=19∨f=20)
def Fi(f:Int):Bool:=decide (17≤f∧f≤21)
def BS(t:Tst)(list:Int):Int:=
 if DG list t.fld=false∨t.other≠0∧(DG list t.other=false∨DH t.fld=false∨DH t.other=false)then 120
 else if t.op<1∨8<t.op∨2<t.op∧(D5 t.fld=true∨t.other≠0)then 121
 else if t.other≠0∧(t.num≠0∨t.text.size≠0)then 122
 else if D5 t.fld=true∧(t.num≠0∨t.text.size=0∨640<t.text.size)then 122
 else if D5 t.fld=false∧t.text.size≠0 then 122
 else 0
def Ch(f:Int)(c:Ctx)(y:Itm):Int:=
 if f=1 then c.pid else if f=2 then c.ppid else if f=3 then c.uid else if f=4 then c.euid else if f=5 then c.gid else if f=6 then c.egid
 else if f=7 then c.auid else if f=8 then c.ses else if f=9 then c.a0 else if f=10 then c.a1 else if f=11 then c.a2 else if f=12 then c.a3
 else if f=15 then c.ext else if f=16 then(if 0≤c.ext then 1 else 0)else if f=17 then y.file.2 else if f=18 then y.file.1
 else if f=19 then y.uid else if f=20 then y.gid else if f=21 then y.kind else c.typ
def Bg(f:Int)(c:Ctx):Bool:=
 if 1≤f∧f≤12 then true else if f=22 then decide (c.typ≠0)else if 15≤f∧f≤21 then decide (c.phase=2)else false
def F3(f:Int)(c:Ctx):Bool:=
 if 15≤f∧f≤21 then decide (c.phase=2)else decide (f≠22∨c.typ≠0)
end Go.Proofs.YtbgnigjfkbmceaaGreatDoor
namespace Go.Proofs.YtbgnigjfkbmceaaGreatDoor
open Go.RowKit
def CM(t:Tst):List AV:=[.v (.int .i64 t.fld), .v (.int .i64 t.op), .v (.int .i64 t.num), .v (.string t.text), .v (.int .i64 t.other)]
def AO(r:Rul):List AV:=[.v (.int .i64 r.list), .v (.int .i64 r.action), .v (.int .u64 r.calls), .sl 5 (r.tests.map CM) none, .v (.int .i64 r.watch), .v (.string r.path), .v (.int .i64 r.perm), .v (.string r.key)]
def Dd(y:Itm):List AV:=[.v (.string y.given), .v (.string y.path), .v (.int .i64 y.dir.1), .v (.int .i64 y.dir.2), .v (.string y.name), .v (.int .i64 y.file.1), .v (.int .i64 y.file.2), .v (.int .i64 y.role), .v (.int .i64 y.kind), .v (.int .i64 y.mode), .v (.int .i64 y.uid), .v (.int .i64 y.gid), .v (.int .i64 y.perm)]
structure Cxs where
 os:List (List AV)
 ps:List (List AV)
 rs:List (List AV)
def De(c:Ctx)(k:Cxs):List AV:=[.v (.int .i64 c.phase), .v (.int .i64 c.pid), .v (.int .i64 c.ppid), .v (.int .i64 c.uid), .v (.int .i64 c.euid), .v (.int .i64 c.gid), .v (.int .i64 c.egid), .v (.int .i64 c.auid), .v (.int .i64 c.ses), .v (.int .i64 c.cwd.1), .v (.int .i64 c.cwd.2), .v (.string c.comm), .v (.string c.exe), .sl 4 k.os none, .v (.bool c.audited),
 .v (.int .i64 c.number), .v (.int .i64 c.a0), .v (.int .i64 c.a1), .v (.int .i64 c.a2), .v (.int .i64 c.a3), .sl 1 k.ps none, .sl 1 k.rs none, .v (.int .i64 c.ext), .sl 13 (c.items.map Dd) none, .v (.int .i64 c.typ)]
section
theorem EY(f:Int):AFn prog 221 [.v (.int .i64 f)] (fun r=>r= .v (.bool (D5 f))):=by
 refine enter Tryz.func221 rfl rfl rfl rfl rfl 0 rfl ?_;refine w_ (a_ (h:=e_ (w_ (m_ (h:=AN (h:=m_ (h:=?_)))))));refine AU false rfl rfl (fun hb1=>?_) (fun hb1=>?_)
 ·have hc1:=bp hb1;refine A3 (h:=A3 (h:=AD (h:=a_ (h:=e_ (A4 (?_))))));refine A8 ?_;exact vb (by unfold D5;rw[Bool.eq_iff_iff];simp;try omega)
 have hc1:=bp hb1;refine m_ (h:=AN (h:=AG (h:=a_ (h:=e_ (A4 (?_))))));refine A8 ?_;exact vb (by unfold D5;rw[Bool.eq_iff_iff];simp;try omega)
theorem HG(f:Int):AFn prog 217 [.v (.int .i64 f)] (fun r=>r= .v (.bool (D5 f))):=by
 refine enter Tryz.func217 rfl rfl rfl rfl rfl 0 rfl ?_;refine w_ (a_ (h:=e_ (w_ (m_ (h:=AN (h:=m_ (h:=?_)))))));refine AU false rfl rfl (fun hb1=>?_) (fun hb1=>?_)
 ·have hc1:=bp hb1;refine A3 (h:=A3 (h:=AD (h:=a_ (h:=e_ (A4 (?_))))));refine A8 ?_;exact vb (by unfold D5;rw[Bool.eq_iff_iff];simp;try omega)
 have hc1:=bp hb1;refine m_ (h:=AN (h:=AG (h:=a_ (h:=e_ (A4 (?_))))));refine A8 ?_;exact vb (by unfold D5;rw[Bool.eq_iff_iff];simp;try omega)
theorem RT(f:Int):AFn prog 160 [.v (.int .i64 f)] (fun r=>r= .v (.bool (Fi f))):=by
 refine enter Tryz.func160 rfl rfl rfl rfl rfl 0 rfl ?_;refine w_ (a_ (h:=e_ (w_ (m_ (h:=D4 (h:=m_ (h:=?_)))))));refine AU true rfl rfl (fun hb1=>?_) (fun hb1=>?_)
 ·have hc1:=bp hb1;refine m_ (h:=EJ (h:=AD (h:=a_ (h:=e_ (A4 (?_))))));refine A8 ?_;exact vb (by unfold Fi;rw[Bool.eq_iff_iff];simp;try omega)
 have hc1:=bp hb1;refine A3 (h:=A3 (h:=AG (h:=a_ (h:=e_ (A4 (?_))))));refine A8 ?_;exact vb (by unfold Fi;rw[Bool.eq_iff_iff];simp;try omega)
theorem RU(f:Int):AFn prog 220 [.v (.int .i64 f)] (fun r=>r= .v (.bool (DH f))):=by
 refine enter Tryz.func220 rfl rfl rfl rfl rfl 0 rfl ?_;refine w_ (a_ (h:=e_ (q_ (w_ (m_ (h:=e_ (Af (q_ (w_ (AN (h:=a_ (h:=e_ (?_)))))))))))));refine A9 rfl (fun hb1=>?_) (fun hb1=>?_)
 ·have hc1:=bp hb1;refine AA (B6 (h:=w_ (a_ (h:=e_ (A4 (AR (A7 (?_))))))));refine A8 ?_;exact vb (by unfold DH;rw[Bool.eq_iff_iff];simp;try omega)
 have hc1:=bp hb1;refine w_ (AN (h:=a_ (h:=e_ (?_))));refine A9 rfl (fun hb2=>?_) (fun hb2=>?_)
 ·have hc2:=bp hb2;refine AA (B6 (h:=w_ (a_ (h:=e_ (A4 (AR (A7 (?_))))))));refine A8 ?_;exact vb (by unfold DH;rw[Bool.eq_iff_iff];simp;try omega)
 have hc2:=bp hb2;refine w_ (AN (h:=a_ (h:=e_ (?_))));refine A9 rfl (fun hb3=>?_) (fun hb3=>?_)
 ·have hc3:=bp hb3;refine AA (B6 (h:=w_ (a_ (h:=e_ (A4 (AR (A7 (?_))))))));refine A8 ?_;exact vb (by unfold DH;rw[Bool.eq_iff_iff];simp;try omega)
 have hc3:=bp hb3;refine w_ (AN (h:=a_ (h:=e_ (?_))));refine A9 rfl (fun hb4=>?_) (fun hb4=>?_)
 ·have hc4:=bp hb4;refine AA (B6 (h:=w_ (a_ (h:=e_ (A4 (AR (A7 (?_))))))));refine A8 ?_;exact vb (by unfold DH;rw[Bool.eq_iff_iff];simp;try omega)
 have hc4:=bp hb4;refine w_ (AN (h:=a_ (h:=e_ (?_))));refine A9 rfl (fun hb5=>?_) (fun hb5=>?_)
 ·have hc5:=bp hb5;refine AA (B6 (h:=w_ (a_ (h:=e_ (A4 (AR (A7 (?_))))))));refine A8 ?_;exact vb (by unfold DH;rw[Bool.eq_iff_iff];simp;try omega)
 have hc5:=bp hb5;refine w_ (AN (h:=a_ (h:=e_ (?_))));refine A9 rfl (fun hb6=>?_) (fun hb6=>?_)
 ·have hc6:=bp hb6;refine AA (B6 (h:=w_ (a_ (h:=e_ (A4 (AR (A7 (?_))))))));refine A8 ?_;exact vb (by unfold DH;rw[Bool.eq_iff_iff];simp;try omega)
 have hc6:=bp hb6;refine AT (AN (h:=a_ (h:=e_ (?_))));refine A9 rfl (fun hb7=>?_) (fun hb7=>?_)
 ·have hc7:=bp hb7;refine w_ (a_ (h:=e_ (A4 (AR (A7 (?_))))));refine A8 ?_;exact vb (by unfold DH;rw[Bool.eq_iff_iff];simp;try omega)
 have hc7:=bp hb7;refine Av (Ai (t_ (w_ (a_ (h:=e_ (A4 (?_)))))));refine A8 ?_;exact vb (by unfold DH;rw[Bool.eq_iff_iff];simp;try omega)
theorem RV(f:Int):AFn prog 216 [.v (.int .i64 f)] (fun r=>r= .v (.bool (DH f))):=by
 refine enter Tryz.func216 rfl rfl rfl rfl rfl 0 rfl ?_;refine w_ (a_ (h:=e_ (q_ (w_ (m_ (h:=e_ (Af (q_ (w_ (AN (h:=a_ (h:=e_ (?_)))))))))))));refine A9 rfl (fun hb1=>?_) (fun hb1=>?_)
 ·have hc1:=bp hb1;refine AA (B6 (h:=w_ (a_ (h:=e_ (A4 (AR (A7 (?_))))))));refine A8 ?_;exact vb (by unfold DH;rw[Bool.eq_iff_iff];simp;try omega)
 have hc1:=bp hb1;refine w_ (AN (h:=a_ (h:=e_ (?_))));refine A9 rfl (fun hb2=>?_) (fun hb2=>?_)
 ·have hc2:=bp hb2;refine AA (B6 (h:=w_ (a_ (h:=e_ (A4 (AR (A7 (?_))))))));refine A8 ?_;exact vb (by unfold DH;rw[Bool.eq_iff_iff];simp;try omega)
 have hc2:=bp hb2;refine w_ (AN (h:=a_ (h:=e_ (?_))));refine A9 rfl (fun hb3=>?_) (fun hb3=>?_)
 ·have hc3:=bp hb3;refine AA (B6 (h:=w_ (a_ (h:=e_ (A4 (AR (A7 (?_))))))));refine A8 ?_;exact vb (by unfold DH;rw[Bool.eq_iff_iff];simp;try omega)
 have hc3:=bp hb3;refine w_ (AN (h:=a_ (h:=e_ (?_))));refine A9 rfl (fun hb4=>?_) (fun hb4=>?_)
 ·have hc4:=bp hb4;refine AA (B6 (h:=w_ (a_ (h:=e_ (A4 (AR (A7 (?_))))))));refine A8 ?_;exact vb (by unfold DH;rw[Bool.eq_iff_iff];simp;try omega)
 have hc4:=bp hb4;refine w_ (AN (h:=a_ (h:=e_ (?_))));refine A9 rfl (fun hb5=>?_) (fun hb5=>?_)
 ·have hc5:=bp hb5;refine AA (B6 (h:=w_ (a_ (h:=e_ (A4 (AR (A7 (?_))))))));refine A8 ?_;exact vb (by unfold DH;rw[Bool.eq_iff_iff];simp;try omega)
 have hc5:=bp hb5;refine w_ (AN (h:=a_ (h:=e_ (?_))));refine A9 rfl (fun hb6=>?_) (fun hb6=>?_)
 ·have hc6:=bp hb6;refine AA (B6 (h:=w_ (a_ (h:=e_ (A4 (AR (A7 (?_))))))));refine A8 ?_;exact vb (by unfold DH;rw[Bool.eq_iff_iff];simp;try omega)
 have hc6:=bp hb6;refine AT (AN (h:=a_ (h:=e_ (?_))));refine A9 rfl (fun hb7=>?_) (fun hb7=>?_)
 ·have hc7:=bp hb7;refine w_ (a_ (h:=e_ (A4 (AR (A7 (?_))))));refine A8 ?_;exact vb (by unfold DH;rw[Bool.eq_iff_iff];simp;try omega)
 have hc7:=bp hb7;refine Av (Ai (t_ (w_ (a_ (h:=e_ (A4 (?_)))))));refine A8 ?_;exact vb (by unfold DH;rw[Bool.eq_iff_iff];simp;try omega)
theorem RW(list f:Int):AFn prog 219 [.v (.int .i64 list), .v (.int .i64 f)] (fun r=>r= .v (.bool (DG list f))):=by
 refine enter Tryz.func219 rfl rfl rfl rfl rfl 0 rfl ?_;refine w_ (a_ (h:=e_ (?_)));refine EU (⟨look [(0, .v (.int .i64 list)),(1, .v (.int .i64 f)),(5, .v (.bool (CC f)))],⟨[],[]⟩⟩) ?_ ?_
 ·skip
  refine AT (m_ (h:=D4 (h:=m_ (h:=?_))));refine AU true rfl rfl (fun hb1=>?_) (fun hb1=>?_)
  ·have hc1:=bp hb1;refine m_ (h:=EJ (h:=AD (h:=m_ (h:=?_))));refine AU false rfl rfl (fun hb2=>?_) (fun hb2=>?_)
   ·have hc2:=bp hb2;refine A3 (h:=A3 (h:=AD (h:=m_ (h:=A3 (h:=A3 (h:=AD (h:=a_ (h:=AP (?_)))))))));refine AK ?_
    first|(exfalso;first|contradiction|omega)|exact Ay 0 0 rfl rfl rfl rfl (by repeat (first|exact Sub.nil|refine B0 rfl rfl ?_|refine B2 ?_|refine B3 rfl ?_|refine B4 rfl ?_|(apply Sub.of;(focus exact rfl);(focus exact LeA.of_eq (vb (by unfold CC;rw[Bool.eq_iff_iff];simp;try omega)));(focus exact rfl))))
   have hc2:=bp hb2;refine m_ (h:=AN (h:=AG (h:=m_ (h:=?_))));refine AU false rfl rfl (fun hb3=>?_) (fun hb3=>?_)
   ·have hc3:=bp hb3;refine A3 (h:=A3 (h:=AD (h:=a_ (h:=AP (?_)))));refine AK ?_
    first|(exfalso;first|contradiction|omega)|exact Ay 0 0 rfl rfl rfl rfl (by repeat (first|exact Sub.nil|refine B0 rfl rfl ?_|refine B2 ?_|refine B3 rfl ?_|refine B4 rfl ?_|(apply Sub.of;(focus exact rfl);(focus exact LeA.of_eq (vb (by unfold CC;rw[Bool.eq_iff_iff];simp;try omega)));(focus exact rfl))))
   have hc3:=bp hb3;refine m_ (h:=AN (h:=AG (h:=a_ (h:=AP (?_)))));refine AK ?_
   first|(exfalso;first|contradiction|omega)|exact Ay 0 0 rfl rfl rfl rfl (by repeat (first|exact Sub.nil|refine B0 rfl rfl ?_|refine B2 ?_|refine B3 rfl ?_|refine B4 rfl ?_|(apply Sub.of;(focus exact rfl);(focus exact LeA.of_eq (vb (by unfold CC;rw[Bool.eq_iff_iff];simp;try omega)));(focus exact rfl))))
  have hc1:=bp hb1;refine A3 (h:=A3 (h:=AG (h:=m_ (h:=m_ (h:=AN (h:=AG (h:=m_ (h:=?_))))))));refine AU false rfl rfl (fun hb4=>?_) (fun hb4=>?_)
  ·have hc4:=bp hb4;refine A3 (h:=A3 (h:=AD (h:=a_ (h:=AP (?_)))));refine AK ?_
   first|(exfalso;first|contradiction|omega)|exact Ay 0 0 rfl rfl rfl rfl (by repeat (first|exact Sub.nil|refine B0 rfl rfl ?_|refine B2 ?_|refine B3 rfl ?_|refine B4 rfl ?_|(apply Sub.of;(focus exact rfl);(focus exact LeA.of_eq (vb (by unfold CC;rw[Bool.eq_iff_iff];simp;try omega)));(focus exact rfl))))
  have hc4:=bp hb4;refine m_ (h:=AN (h:=AG (h:=a_ (h:=AP (?_)))));refine AK ?_
  first|(exfalso;first|contradiction|omega)|exact Ay 0 0 rfl rfl rfl rfl (by repeat (first|exact Sub.nil|refine B0 rfl rfl ?_|refine B2 ?_|refine B3 rfl ?_|refine B4 rfl ?_|(apply Sub.of;(focus exact rfl);(focus exact LeA.of_eq (vb (by unfold CC;rw[Bool.eq_iff_iff];simp;try omega)));(focus exact rfl))))
 skip
 refine q_ (w_ (m_ (h:=e_ (Af (q_ (w_ (AN (h:=a_ (h:=e_ (?_))))))))));refine A9 rfl (fun hb5=>?_) (fun hb5=>?_)
 ·have hc5:=bp hb5;refine AA (B6 (h:=w_ (m_ (h:=a_ (h:=e_ (A4 (AR (A7 (?_)))))))));refine A8 ?_
  first|(exfalso;first|contradiction|omega)|(exact vb (by unfold DG;unfold CC at *;simp only[*];(try rw[Bool.eq_iff_iff]);simp at *;try omega))
 have hc5:=bp hb5;refine AT (AN (h:=a_ (h:=e_ (?_))));refine A9 rfl (fun hb6=>?_) (fun hb6=>?_)
 ·have hc6:=bp hb6;refine w_ (m_ (h:=a_ (h:=e_ (A4 (AR (A7 (?_)))))));refine A8 ?_
  first|(exfalso;first|contradiction|omega)|(exact vb (by unfold DG;unfold CC at *;simp only[*];(try rw[Bool.eq_iff_iff]);simp at *;try omega))
 have hc6:=bp hb6;refine w_ (AN (h:=a_ (h:=e_ (?_))));refine A9 rfl (fun hb7=>?_) (fun hb7=>?_)
 ·have hc7:=bp hb7;refine w_ (m_ (h:=D4 (h:=m_ (h:=?_))));refine AU true rfl rfl (fun hb8=>?_) (fun hb8=>?_)
  ·have hc8:=bp hb8;refine m_ (h:=EJ (h:=AD (h:=a_ (h:=e_ (A4 (AR (A7 (?_))))))));refine A8 ?_
   first|(exfalso;first|contradiction|omega)|(exact vb (by unfold DG;unfold CC at *;simp only[*];(try rw[Bool.eq_iff_iff]);simp at *;try omega))
  have hc8:=bp hb8;refine A3 (h:=A3 (h:=AG (h:=a_ (h:=e_ (A4 (AR (A7 (?_))))))));refine A8 ?_
  first|(exfalso;first|contradiction|omega)|(exact vb (by unfold DG;unfold CC at *;simp only[*];(try rw[Bool.eq_iff_iff]);simp at *;try omega))
 have hc7:=bp hb7;refine w_ (AN (h:=a_ (h:=e_ (?_))));refine A9 rfl (fun hb9=>?_) (fun hb9=>?_)
 ·have hc9:=bp hb9;refine w_ (m_ (h:=D4 (h:=m_ (h:=?_))));refine AU true rfl rfl (fun hb10=>?_) (fun hb10=>?_)
  ·have hc10:=bp hb10;refine m_ (h:=EJ (h:=AD (h:=a_ (h:=e_ (A4 (AR (A7 (?_))))))));refine A8 ?_
   first|(exfalso;first|contradiction|omega)|(exact vb (by unfold DG;unfold CC at *;simp only[*];(try rw[Bool.eq_iff_iff]);simp at *;try omega))
  have hc10:=bp hb10;refine A3 (h:=A3 (h:=AG (h:=a_ (h:=e_ (A4 (AR (A7 (?_))))))));refine A8 ?_
  first|(exfalso;first|contradiction|omega)|(exact vb (by unfold DG;unfold CC at *;simp only[*];(try rw[Bool.eq_iff_iff]);simp at *;try omega))
 have hc9:=bp hb9;refine w_ (AN (h:=a_ (h:=e_ (?_))));refine A9 rfl (fun hb11=>?_) (fun hb11=>?_)
 ·have hc11:=bp hb11;refine w_ (m_ (h:=m_ (h:=?_)));refine AU false rfl rfl (fun hb12=>?_) (fun hb12=>?_)
  ·have hc12:=bp hb12;refine A3 (h:=A3 (h:=AD (h:=a_ (h:=e_ (A4 (AR (A7 (?_))))))));refine A8 ?_
   first|(exfalso;first|contradiction|omega)|(exact vb (by unfold DG;unfold CC at *;simp only[*];(try rw[Bool.eq_iff_iff]);simp at *;try omega))
  have hc12:=bp hb12;refine m_ (h:=AN (h:=AG (h:=a_ (h:=e_ (A4 (AR (A7 (?_))))))));refine A8 ?_
  first|(exfalso;first|contradiction|omega)|(exact vb (by unfold DG;unfold CC at *;simp only[*];(try rw[Bool.eq_iff_iff]);simp at *;try omega))
 have hc11:=bp hb11;refine Av (Ai (t_ (w_ (a_ (h:=e_ (A4 (?_)))))));refine A8 ?_
 first|(exfalso;first|contradiction|omega)|(exact vb (by unfold DG;unfold CC at *;simp only[*];(try rw[Bool.eq_iff_iff]);simp at *;try omega))
theorem RX(list f:Int):AFn prog 215 [.v (.int .i64 list), .v (.int .i64 f)] (fun r=>r= .v (.bool (DG list f))):=by
 refine enter Tryz.func215 rfl rfl rfl rfl rfl 0 rfl ?_;refine w_ (a_ (h:=e_ (q_ (w_ (m_ (h:=B1 (h:=m_ (h:=?_))))))));refine AU false rfl rfl (fun hb1=>?_) (fun hb1=>?_)
 ·have hc1:=bp hb1;refine A3 (h:=A3 (h:=AD (h:=e_ (B6 (h:=w_ (a_ (h:=e_ (A4 (A7 (?_))))))))));refine A8 ?_
  first|(exfalso;first|contradiction|omega)|(exact vb (by unfold DG CC;(repeat' split)<;>(try rw[Bool.eq_iff_iff])<;>(try simp)<;>(first|omega|(unfold CC at *;simp only[decide_eq_true_eq,decide_eq_false_iff_not]at *;omega)|skip)))
 have hc1:=bp hb1;refine m_ (h:=Bf (h:=AG (h:=e_ (?_))));refine A9 rfl (fun hb2=>?_) (fun hb2=>?_)
 ·have hc2:=bp hb2;refine w_ (a_ (h:=e_ (A4 (A7 (?_)))));refine A8 ?_
  first|(exfalso;first|contradiction|omega)|(exact vb (by unfold DG CC;(repeat' split)<;>(try rw[Bool.eq_iff_iff])<;>(try simp)<;>(first|omega|(unfold CC at *;simp only[decide_eq_true_eq,decide_eq_false_iff_not]at *;omega)|skip)))
 have hc2:=bp hb2;refine AA (?_);refine EU (⟨look [(0, .v (.int .i64 list)),(1, .v (.int .i64 f)),(5, .v (.bool (CC f)))],⟨[],[]⟩⟩) ?_ ?_
 ·skip
  refine AT (m_ (h:=EJ (h:=m_ (h:=?_))));refine AU false rfl rfl (fun hb3=>?_) (fun hb3=>?_)
  ·have hc3:=bp hb3;refine A3 (h:=A3 (h:=AD (h:=m_ (h:=A3 (h:=A3 (h:=AD (h:=a_ (h:=AP (?_)))))))));refine AK ?_
   first|(exfalso;first|contradiction|omega)|exact Ay 0 0 rfl rfl rfl rfl (by repeat (first|exact Sub.nil|refine B0 rfl rfl ?_|refine B2 ?_|refine B3 rfl ?_|refine B4 rfl ?_|(apply Sub.of;(focus exact rfl);(focus exact LeA.of_eq (vb (by unfold CC;rw[Bool.eq_iff_iff];simp;try omega)));(focus exact rfl))))
  have hc3:=bp hb3;refine m_ (h:=AN (h:=AG (h:=m_ (h:=?_))));refine AU false rfl rfl (fun hb4=>?_) (fun hb4=>?_)
  ·have hc4:=bp hb4;refine A3 (h:=A3 (h:=AD (h:=a_ (h:=AP (?_)))));refine AK ?_
   first|(exfalso;first|contradiction|omega)|exact Ay 0 0 rfl rfl rfl rfl (by repeat (first|exact Sub.nil|refine B0 rfl rfl ?_|refine B2 ?_|refine B3 rfl ?_|refine B4 rfl ?_|(apply Sub.of;(focus exact rfl);(focus exact LeA.of_eq (vb (by unfold CC;rw[Bool.eq_iff_iff];simp;try omega)));(focus exact rfl))))
  have hc4:=bp hb4;refine m_ (h:=AN (h:=AG (h:=a_ (h:=AP (?_)))));refine AK ?_
  first|(exfalso;first|contradiction|omega)|exact Ay 0 0 rfl rfl rfl rfl (by repeat (first|exact Sub.nil|refine B0 rfl rfl ?_|refine B2 ?_|refine B3 rfl ?_|refine B4 rfl ?_|(apply Sub.of;(focus exact rfl);(focus exact LeA.of_eq (vb (by unfold CC;rw[Bool.eq_iff_iff];simp;try omega)));(focus exact rfl))))
 skip
 refine q_ (w_ (m_ (h:=e_ (Af (q_ (w_ (AN (h:=a_ (h:=e_ (?_))))))))));refine A9 rfl (fun hb5=>?_) (fun hb5=>?_)
 ·have hc5:=bp hb5;refine AA (B6 (h:=w_ (m_ (h:=a_ (h:=e_ (A4 (AR (A7 (?_)))))))));refine A8 ?_
  first|(exfalso;first|contradiction|omega)|(exact vb (by unfold DG CC;(repeat' split)<;>(try rw[Bool.eq_iff_iff])<;>(try simp)<;>(first|omega|(unfold CC at *;simp only[decide_eq_true_eq,decide_eq_false_iff_not]at *;omega)|skip)))
 have hc5:=bp hb5;refine AT (AN (h:=a_ (h:=e_ (?_))));refine A9 rfl (fun hb6=>?_) (fun hb6=>?_)
 ·have hc6:=bp hb6;refine w_ (m_ (h:=a_ (h:=e_ (A4 (AR (A7 (?_)))))));refine A8 ?_
  first|(exfalso;first|contradiction|omega)|(exact vb (by unfold DG CC;(repeat' split)<;>(try rw[Bool.eq_iff_iff])<;>(try simp)<;>(first|omega|(unfold CC at *;simp only[decide_eq_true_eq,decide_eq_false_iff_not]at *;omega)|skip)))
 have hc6:=bp hb6;refine w_ (AN (h:=a_ (h:=e_ (?_))));refine A9 rfl (fun hb7=>?_) (fun hb7=>?_)
 ·have hc7:=bp hb7;refine w_ (m_ (h:=EJ (h:=a_ (h:=e_ (A4 (AR (A7 (?_))))))));refine A8 ?_
  first|(exfalso;first|contradiction|omega)|(exact vb (by unfold DG CC;(repeat' split)<;>(try rw[Bool.eq_iff_iff])<;>(try simp)<;>(first|omega|(unfold CC at *;simp only[decide_eq_true_eq,decide_eq_false_iff_not]at *;omega)|skip)))
 have hc7:=bp hb7;refine w_ (AN (h:=a_ (h:=e_ (?_))));refine A9 rfl (fun hb8=>?_) (fun hb8=>?_)
 ·have hc8:=bp hb8;refine w_ (m_ (h:=B1 (h:=a_ (h:=e_ (A4 (AR (A7 (?_))))))));refine A8 ?_
  first|(exfalso;first|contradiction|omega)|(exact vb (by unfold DG CC;(repeat' split)<;>(try rw[Bool.eq_iff_iff])<;>(try simp)<;>(first|omega|(unfold CC at *;simp only[decide_eq_true_eq,decide_eq_false_iff_not]at *;omega)|skip)))
 have hc8:=bp hb8;refine w_ (AN (h:=a_ (h:=e_ (?_))));refine A9 rfl (fun hb9=>?_) (fun hb9=>?_)
 ·have hc9:=bp hb9;refine w_ (m_ (h:=m_ (h:=?_)));refine AU false rfl rfl (fun hb10=>?_) (fun hb10=>?_)
  ·have hc10:=bp hb10;refine A3 (h:=A3 (h:=AD (h:=a_ (h:=e_ (A4 (AR (A7 (?_))))))));refine A8 ?_
   first|(exfalso;first|contradiction|omega)|(exact vb (by unfold DG CC;(repeat' split)<;>(try rw[Bool.eq_iff_iff])<;>(try simp)<;>(first|omega|(unfold CC at *;simp only[decide_eq_true_eq,decide_eq_false_iff_not]at *;omega)|skip)))
  have hc10:=bp hb10;refine m_ (h:=AN (h:=AG (h:=a_ (h:=e_ (A4 (AR (A7 (?_))))))));refine A8 ?_
  first|(exfalso;first|contradiction|omega)|(exact vb (by unfold DG CC;(repeat' split)<;>(try rw[Bool.eq_iff_iff])<;>(try simp)<;>(first|omega|(unfold CC at *;simp only[decide_eq_true_eq,decide_eq_false_iff_not]at *;omega)|skip)))
 have hc9:=bp hb9;refine Av (Ai (t_ (w_ (a_ (h:=e_ (A4 (?_)))))));refine A8 ?_
 first|(exfalso;first|contradiction|omega)|(exact vb (by unfold DG CC;(repeat' split)<;>(try rw[Bool.eq_iff_iff])<;>(try simp)<;>(first|omega|(unfold CC at *;simp only[decide_eq_true_eq,decide_eq_false_iff_not]at *;omega)|skip)))
end
end Go.Proofs.YtbgnigjfkbmceaaGreatDoor
