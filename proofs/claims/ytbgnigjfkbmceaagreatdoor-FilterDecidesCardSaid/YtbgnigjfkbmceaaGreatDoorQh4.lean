/-
  Part 4 of the proof of FilterDecidesP: what the statement's proof uses of the texts in wip/tpl.
-/
import Derived.WalkKit
import Derived.Test.YtbgnigjfkbmceaaGreatDoorQh3
open Go.Proofs.Tryz (prog)
set_option maxRecDepth 10000
set_option maxHeartbeats 4000000
set_option linter.unusedVariables false
set_option linter.unusedSimpArgs false
namespace Go.Proofs.YtbgnigjfkbmceaaGreatDoor
open Go.RowKit
section
variable {P:Program}{N:Dim}{Q:Exit→AS→Prop}{s:AS}
def AC(P:Program)(N:Dim)(y:Code)(Q:Exit→AS→Prop)(s:AS):Prop:=Bv P N y Q s
theorem q_{x y:Code}(h:Bv P N x (Jy (AC P N y Q) Q) s):Bv P N (.seq x y) Q s:=by
 intro E a w hr;refine wp_seq (wp_mono (h E a w hr) ?_);rintro e a' w' ⟨s',hq,hr'⟩
 cases e with
 |normal=>exact hq E a' w' hr'
 |exit id=>exact⟨s',hq,hr'⟩
 |goto l=>exact⟨s',hq,hr'⟩
 |ret=>exact⟨s',hq,hr'⟩
 |panic c=>exact⟨s',hq,hr'⟩
 |outgrown=>exact⟨s',hq,hr'⟩
theorem w_{id:Nat}{l:List Oper}{y:Code}(h:AL P N l.toArray (Jy (AC P N y Q) Q) l s):Bv P N (.seq (.region id l.toArray false) y) Q s:=q_ (Aw h)
theorem t_{y:Code}(h:Bv P N y Q s):Jy (AC P N y Q) Q .normal s:=h
theorem e_{ops:Array Oper}{y:Code}(h:Bv P N y Q s):AL P N ops (Jy (AC P N y Q) Q) [] s:=Bw h
theorem AG{y:Code}(h:Bv P N y Q s):Bv P N .skip (Jy (AC P N y Q) Q) s:=BG h
theorem E3{c:Operand}{x y:Code}{t:Bool}(hc:Ca s.sl c=some (.v (.bool t)):=by rfl)(ht:t=true:=by first|rfl|assumption|simp[*])(h:Bv P N x Q s):Bv P N (.cond c x y) Q s:=bF hc ht h
theorem Hh{c:Operand}{x y:Code}{t:Bool}(hc:Ca s.sl c=some (.v (.bool t)):=by rfl)(ht:t=false:=by first|rfl|assumption|simp[*])(h:Bv P N y Q s):Bv P N (.cond c x y) Q s:=bG hc ht h
end
section
variable {P:Program}{N:Dim}{Q:Exit→AS→Prop}{ops:Array Oper}{rest:List Oper}{l:List (Nat×AV)}{hh:AH}{op:Op}{ty:TypeId}{pos:String}{af:Array Edge}
theorem Hi{d j:Nat}{want t:Bool}(hd:Nat.blt d N.n=true:=by rfl)(hy:yv ops (look l) j=some (some t):=by rfl)(ht:(t==want)=false:=by first|rfl|exact VN ‹_›|exact VO ‹_›|simp[*])(h:AL P N ops Q rest ⟨look ((d, .v undef)::l),hh⟩):AL P N ops Q (⟨some d,op,ty,pos,af,some (j,want)⟩::rest) ⟨look l,hh⟩:=bH hd hy ht h
theorem Me{d j:Nat}{want:Bool}(hd:Nat.blt d N.n=true:=by rfl)(hy:yv ops (look l) j=some none:=by rfl)(h:AL P N ops Q rest ⟨look ((d, .v undef)::l),hh⟩):AL P N ops Q (⟨some d,op,ty,pos,af,some (j,want)⟩::rest) ⟨look l,hh⟩:=bJ hd hy h
end
def KB:List (Nat×List AV)→AH→Prop
 |[],_=>True
 |(i,r)::l,h=>h.bx[i]?=some r∧KB l h
def Si:List (Nat×List AV)→Nat→Option (List AV)
 |[],_=>none
 |(i,r)::l,j=>match Nat.beq i j with
   |true=>some r
   |false=>Si l j
theorem kb:∀{l:List (Nat×List AV)} {h:AH} {i:Nat} {row:List AV},KB l h→Si l i=some row→h.bx[i]?=some row
 |[],_,_,_,_,e=>by cases e
 |(j,r)::l,h,i,row,k,e=>by
   unfold Si at e;split at e
   ·rename_i hb;have:=Nat.eq_of_beq_eq_true hb;subst this;injection e with e;subst e;exact k.1
   exact kb k.2 e
theorem O1(h:AH):KB [] h:=trivial
theorem O2{l:List (Nat×List AV)}{h:AH}{i:Nat}{r:List AV}(h1:h.bx[i]?=some r)(h2:KB l h):KB ((i,r)::l) h:=⟨h1,h2⟩
def Do(_i:Nat)(B A:Prop):Prop:=B→A
section
variable {P:Program}{N:Dim}{l:List Oper}{Q:Exit→AS→Prop}{S:AH→Prop}{tl fuel:Nat}{listed:Array Bool}{m:List (Nat×AV)}{hh:AH}{op:Op}{ty:TypeId}{pos:String}{af:Array Edge}{gd:Option (Nat×Bool)}
theorem D0{i d:Nat}{x:AV}(hi:l[i]?=some ⟨some d,op,ty,pos,af,gd⟩)(hst:AStep P ⟨some d,op,ty,pos,af,gd⟩ (Ca (look m)) hh (fun x' h'=>x'=x∧h'=hh))(hd:Nat.blt d N.n=true:=by rfl)(htl:(LL l.toArray tl listed&& !Nat.ble tl i&&Region.free .any l.toArray listed i&&(Region.ready .any l.toArray listed).contains i)=true:=by kernel_rfl)
    (hw:Cj l.toArray (look m) ⟨some d,op,ty,pos,af,gd⟩=some true:=by first|rfl|exact BQ rfl rfl (EZ ‹_›)|exact BQ rfl rfl (Ea ‹_›)|exact BQ rfl rfl (by simp[*])):
    Do i (AAny P N l.toArray Q (fun h'=>h'=hh) tl fuel (listed.setIfInBounds i true) ⟨look ((d,x)::m),hh⟩) (AAny P N l.toArray Q (fun h'=>h'=hh) tl (fuel+1) listed ⟨look m,hh⟩):=fun H=>Ux hi hd htl hw hst H
theorem D1{K:List (Nat×List AV)}{i d:Nat}{x:AV}(hi:l[i]?=some ⟨some d,op,ty,pos,af,gd⟩)(hst:∀h,KB K h→AStep P ⟨some d,op,ty,pos,af,gd⟩ (Ca (look m)) h (fun x' h'=>x'=x∧h'=h))(hd:Nat.blt d N.n=true:=by rfl)(htl:(LL l.toArray tl listed&& !Nat.ble tl i&&Region.free .any l.toArray listed i&&(Region.ready .any l.toArray listed).contains i)=true:=by kernel_rfl)
    (hw:Cj l.toArray (look m) ⟨some d,op,ty,pos,af,gd⟩=some true:=by first|rfl|exact BQ rfl rfl (EZ ‹_›)|exact BQ rfl rfl (Ea ‹_›)|exact BQ rfl rfl (by simp[*])) (hS:KB K hh:=by repeat (first|exact O1 _|refine O2 rfl ?_)):
    Do i (AAny P N l.toArray Q (KB K) tl fuel (listed.setIfInBounds i true) ⟨look ((d,x)::m),hh⟩) (AAny P N l.toArray Q (KB K) tl (fuel+1) listed ⟨look m,hh⟩):=fun H=>Gy hi hd htl hw hst hS H
theorem C5{K:List (Nat×List AV)}(i:Nat){d:Nat}{x:AV}(hi:l[i]?=some ⟨some d,op,ty,pos,af,gd⟩)(hst:∀h,KB K h→AStep P ⟨some d,op,ty,pos,af,gd⟩ (Ca (look m)) h (fun x' h'=>x'=x∧h'=h))(H:AAny P N l.toArray Q (KB K) tl fuel (listed.setIfInBounds i true) ⟨look ((d,x)::m),hh⟩)(hd:Nat.blt d N.n=true:=by rfl)(htl:(LL l.toArray tl listed&& !Nat.ble tl i&&Region.free .any l.toArray listed i&&(Region.ready .any l.toArray listed).contains i)=true:=by kernel_rfl)
    (hw:Cj l.toArray (look m) ⟨some d,op,ty,pos,af,gd⟩=some true:=by first|rfl|exact BQ rfl rfl (EZ ‹_›)|exact BQ rfl rfl (Ea ‹_›)|exact BQ rfl rfl (by simp[*])) (hS:KB K hh:=by repeat (first|exact O1 _|refine O2 rfl ?_)):AAny P N l.toArray Q (KB K) tl (fuel+1) listed ⟨look m,hh⟩:=Gy hi hd htl hw hst hS H
theorem Aj(i:Nat){d:Nat}(hi:l[i]?=some ⟨some d,op,ty,pos,af,gd⟩:=by rfl)(hd:Nat.blt d N.n=true:=by rfl)(htl:(LL l.toArray tl listed&& !Nat.ble tl i&&Region.free .any l.toArray listed i&&(Region.ready .any l.toArray listed).contains i)=true:=by kernel_rfl)
    (hw:Cj l.toArray (look m) ⟨some d,op,ty,pos,af,gd⟩=some false:=by first|rfl|exact SC rfl rfl (VN ‹_›)|exact SC rfl rfl (VO ‹_›)|exact aP rfl rfl|exact SC rfl rfl (by simp[*]))
    (hS:S hh:=by first|rfl|(repeat (first|exact O1 _|refine O2 rfl ?_))) (h:AAny P N l.toArray Q S tl fuel (listed.setIfInBounds i true) ⟨look ((d, .v undef)::m),hh⟩):AAny P N l.toArray Q S tl (fuel+1) listed ⟨look m,hh⟩:=aK hi hd htl hw hS h
theorem c_(i:Nat){d:Nat}(hi:l[i]?=some ⟨some d,op,ty,pos,af,gd⟩)(H:AStep P ⟨some d,op,ty,pos,af,gd⟩ (Ca (look m)) hh (fun x h'=>(Nat.ble tl i=true∨S h')∧AAny P N l.toArray Q S tl fuel (listed.setIfInBounds i true) ⟨look ((d,x)::m),h'⟩))(hd:Nat.blt d N.n=true:=by rfl)(hr:Region.ready .any l.toArray listed=[i]:=by kernel_rfl)
    (hw:Cj l.toArray (look m) ⟨some d,op,ty,pos,af,gd⟩=some true:=by first|rfl|exact BQ rfl rfl (EZ ‹_›)|exact BQ rfl rfl (Ea ‹_›)|exact BQ rfl rfl (by simp[*])):AAny P N l.toArray Q S tl (fuel+1) listed ⟨look m,hh⟩:=aL hi hd hr hw H
theorem Hj(i:Nat)(hi:l[i]?=some ⟨none,op,ty,pos,af,gd⟩)(H:AStep P ⟨none,op,ty,pos,af,gd⟩ (Ca (look m)) hh (fun _ h'=>(Nat.ble tl i=true∨S h')∧AAny P N l.toArray Q S tl fuel (listed.setIfInBounds i true) ⟨look m,h'⟩))(hr:Region.ready .any l.toArray listed=[i]:=by kernel_rfl)
    (hw:Cj l.toArray (look m) ⟨none,op,ty,pos,af,gd⟩=some true:=by first|rfl|exact BQ rfl rfl (EZ ‹_›)|exact BQ rfl rfl (Ea ‹_›)|exact BQ rfl rfl (by simp[*])):AAny P N l.toArray Q S tl (fuel+1) listed ⟨look m,hh⟩:=aM hi hr hw H
theorem Ft(i j:Nat){di dj:Nat}{op':Op}{ty':TypeId}{pos':String}{af':Array Edge}{gd':Option (Nat×Bool)}(hi:l[i]?=some ⟨some di,op,ty,pos,af,gd⟩)(hj:l[j]?=some ⟨some dj,op',ty',pos',af',gd'⟩)
    (H1:AStep P ⟨some di,op,ty,pos,af,gd⟩ (Ca (look m)) hh (fun x h'=>(Nat.ble tl i=true∨S h')∧AAny P N l.toArray Q S tl fuel (listed.setIfInBounds i true) ⟨look ((di,x)::m),h'⟩))
    (H2:AStep P ⟨some dj,op',ty',pos',af',gd'⟩ (Ca (look m)) hh (fun x h'=>(Nat.ble tl j=true∨S h')∧AAny P N l.toArray Q S tl fuel (listed.setIfInBounds j true) ⟨look ((dj,x)::m),h'⟩))
    (hdi:Nat.blt di N.n=true:=by rfl) (hdj:Nat.blt dj N.n=true:=by rfl) (hr:Region.ready .any l.toArray listed=[i,j]:=by kernel_rfl)
    (hwi:Cj l.toArray (look m) ⟨some di,op,ty,pos,af,gd⟩=some true:=by first|rfl|exact BQ rfl rfl (EZ ‹_›)|exact BQ rfl rfl (Ea ‹_›)|exact BQ rfl rfl (by simp[*]))
    (hwj:Cj l.toArray (look m) ⟨some dj,op',ty',pos',af',gd'⟩=some true:=by first|rfl|exact BQ rfl rfl (EZ ‹_›)|exact BQ rfl rfl (Ea ‹_›)|exact BQ rfl rfl (by simp[*])):AAny P N l.toArray Q S tl (fuel+1) listed ⟨look m,hh⟩:=cC hr hi hdi hwi hj hdj hwj H1 H2
theorem o_{i:Nat}{A:Prop}{h':AH}(hS:Nat.ble tl i=true∨S h':=by first|exact .inl rfl|exact .inr rfl|exact .inr (by repeat (first|exact O1 _|refine O2 rfl ?_)))(h:A):(Nat.ble tl i=true∨S h')∧A:=⟨hS,h⟩
theorem z_(hr:Region.ready .any l.toArray listed=[]:=by kernel_rfl)(h:Q .normal ⟨look m,hh⟩):AAny P N l.toArray Q S tl fuel listed ⟨look m,hh⟩:=aO hr h fuel
theorem Ct(tl:Nat){id:Nat}(hm:P.follows .mixedOrders=true:=by kernel_rfl)(h:AAny P N l.toArray Q (fun h'=>h'=hh) tl l.length (Array.replicate l.length false) ⟨look m,hh⟩):Bv P N (.region id l.toArray true) Q ⟨look m,hh⟩:=aN tl hm h
theorem BR(K:List (Nat×List AV))(tl:Nat){id:Nat}(hm:P.follows .mixedOrders=true:=by kernel_rfl)(h:AAny P N l.toArray Q (KB K) tl l.length (Array.replicate l.length false) ⟨look m,hh⟩):Bv P N (.region id l.toArray true) Q ⟨look m,hh⟩:=Pz _ tl hm h
end
section
variable {P:Program}{rs:List ResultVar}{n:Nat}{R:AV→List (List AV)→List Cd→Prop}{s:AS}{xs:List AV}{r:AV}
theorem AX(g:Option Nat){tk':List Cd}(h1:ResA P s rs xs:=by repeat (first|exact ResA.nil|(apply ResA.tmp;(focus exact rfl))|(apply ResA.cellN;(focus exact inferInstance);(focus exact rfl);(focus exact rfl);(focus exact rfl))|(apply ResA.cell1;(focus exact inferInstance);(focus exact rfl);(focus exact rfl);(focus exact rfl))))(h2:MX s.h.tk g=some tk':=by rfl)(h3:AQ n 1 (EE g (GE xs))=true:=by rfl)(h4:AY n 0 (s.h.bx.take n)=true:=by rfl)(h5:LeA (EE g (GE xs)) r)(h6:R r (s.h.bx.take n) tk'):MY P rs n R .ret s:=QW g h1 h2 h3 h4 h5 h6
theorem Qv(g:Option Nat){tk':List Cd}(h1:ResA P s rs xs:=by repeat (first|exact ResA.nil|(apply ResA.tmp;(focus exact rfl))|(apply ResA.cellN;(focus exact inferInstance);(focus exact rfl);(focus exact rfl);(focus exact rfl))|(apply ResA.cell1;(focus exact inferInstance);(focus exact rfl);(focus exact rfl);(focus exact rfl))))(h2:MX s.h.tk g=some tk':=by rfl)(h3:AQ n 1 (EE g (GE xs))=true:=by rfl)(h4:AY n 0 (s.h.bx.take n)=true:=by rfl)(h5:LeA (EE g (GE xs)) r)(h6:R r (s.h.bx.take n) tk'):MY P rs n R .normal s:=bA g h1 h2 h3 h4 h5 h6
end
theorem m_{A B:Prop}(k:B→A:=by intro b;first|exact A3 rfl (LN rfl b)|exact As (LN rfl b))(h:B):A:=k h
theorem AE(i:Nat){A B:Prop}(k:Do i B A:=by first|exact D0 rfl (LN rfl ⟨rfl,rfl⟩)|exact D1 rfl (fun _ _=>LN rfl ⟨rfl,rfl⟩))(h:B):A:=k h
theorem a_{A B:Prop}(k:B→A:=by intro b;first|exact A3 rfl (J9 rfl b)|exact As (J9 rfl b))(h:B):A:=k h
theorem B9(i:Nat){A B:Prop}(k:Do i B A:=by first|exact D0 rfl (J9 rfl ⟨rfl,rfl⟩)|exact D1 rfl (fun _ _=>J9 rfl ⟨rfl,rfl⟩))(h:B):A:=k h
theorem f_{A B:Prop}(k:B→A:=by intro b;first|exact A3 rfl (KU rfl b)|exact A3 rfl (Q9 rfl b)|exact As (KU rfl b)|exact As (Q9 rfl b))(h:B):A:=k h
theorem AA(i:Nat){A B:Prop}(k:Do i B A:=by first|exact D0 rfl (KU rfl ⟨rfl,rfl⟩)|exact D0 rfl (Q9 rfl ⟨rfl,rfl⟩)|exact D1 rfl (fun _ _=>KU rfl ⟨rfl,rfl⟩)|exact D1 rfl (fun _ _=>Q9 rfl ⟨rfl,rfl⟩))(h:B):A:=k h
theorem l_{A B:Prop}(k:B→A:=by intro b;first|exact A3 rfl (Dq rfl rfl rfl b)|exact A3 rfl (KV rfl rfl rfl b)|exact A3 rfl (Nt rfl rfl b)|exact A3 rfl (QA rfl rfl b)|exact A3 rfl (MT rfl rfl rfl b)|exact A3 rfl (Om rfl rfl b)|exact As (Dq rfl rfl rfl b)|exact As (KV rfl rfl rfl b)|exact As (Nt rfl rfl b)|exact As (QA rfl rfl b)|exact As (MT rfl rfl rfl b)|exact As (Om rfl rfl b))(h:B):A:=k h
theorem A9(i:Nat){A B:Prop}(k:Do i B A:=by first|exact D0 rfl (Dq rfl rfl rfl ⟨rfl,rfl⟩)|exact D0 rfl (KV rfl rfl rfl ⟨rfl,rfl⟩)|exact D0 rfl (Nt rfl rfl ⟨rfl,rfl⟩)|exact D0 rfl (QA rfl rfl ⟨rfl,rfl⟩)|exact D0 rfl (MT rfl rfl rfl ⟨rfl,rfl⟩)|exact D0 rfl (Om rfl rfl ⟨rfl,rfl⟩)|exact D1 rfl (fun _ hS=>Dq rfl (kb hS rfl) rfl ⟨rfl,rfl⟩)|exact D1 rfl (fun _ hS=>KV rfl (kb hS rfl) rfl ⟨rfl,rfl⟩)|exact D1 rfl (fun _ _=>Nt rfl rfl ⟨rfl,rfl⟩)|exact D1 rfl (fun _ _=>QA rfl rfl ⟨rfl,rfl⟩)|exact D1 rfl (fun _ hS=>MT rfl (kb hS rfl) rfl ⟨rfl,rfl⟩)|exact D1 rfl (fun _ _=>Om rfl rfl ⟨rfl,rfl⟩))(h:B):A:=k h
theorem s_{A B:Prop}(k:B→A:=by intro b;exact Mc (Ep rfl rfl rfl rfl rfl rfl (by repeat constructor) (by repeat constructor) b))(h:B):A:=k h
theorem b_{A B:Prop}(k:B→A:=by intro b;first|exact A3 rfl (Qb rfl rfl (by repeat constructor) b)|exact A3 rfl (VP rfl rfl (by repeat constructor) b)|exact As (Qb rfl rfl (by repeat constructor) b)|exact As (VP rfl rfl (by repeat constructor) b))(h:B):A:=k h
theorem CU{A B:Prop}(k:B→A:=by intro b;first|exact A3 rfl (Cb (by repeat constructor) b)|exact As (Cb (by repeat constructor) b))(h:B):A:=k h
theorem n_{A B:Prop}(k:B→A:=by intro b;first|exact A3 rfl (QS rfl b)|exact A3 rfl (QR (by kernel_rfl) rfl b)|exact A3 rfl (QT rfl b)|exact As (QS rfl b)|exact As (QR (by kernel_rfl) rfl b)|exact As (QT rfl b))(h:B):A:=k h
theorem Lu(i:Nat){A B:Prop}(k:Do i B A:=by first|exact D0 rfl (QS rfl ⟨rfl,rfl⟩)|exact D0 rfl (QR (by kernel_rfl) rfl ⟨rfl,rfl⟩)|exact D0 rfl (QT rfl ⟨rfl,rfl⟩)|exact D1 rfl (fun _ _=>QS rfl ⟨rfl,rfl⟩)|exact D1 rfl (fun _ _=>QR (by kernel_rfl) rfl ⟨rfl,rfl⟩)|exact D1 rfl (fun _ _=>QT rfl ⟨rfl,rfl⟩))(h:B):A:=k h
theorem Gb{A B:Prop}(k:B→A:=by intro b;first|exact A3 rfl (EF rfl rfl rfl (by simp<;>omega) (by repeat constructor) b)|exact A3 rfl (JC rfl rfl (by simp<;>omega) (by repeat constructor) b)|exact As (EF rfl rfl rfl (by simp<;>omega) (by repeat constructor) b)|exact As (JC rfl rfl (by simp<;>omega) (by repeat constructor) b))(h:B):A:=k h
theorem x_{A B:Prop}(k:B→A:=by intro b;first|exact A3 rfl (Q6 rfl rfl b)|exact As (Q6 rfl rfl b))(h:B):A:=k h
theorem BH(i:Nat){A B:Prop}(k:Do i B A:=by first|exact D0 rfl (Q6 rfl rfl ⟨rfl,rfl⟩)|exact D1 rfl (fun _ _=>Q6 rfl rfl ⟨rfl,rfl⟩))(h:B):A:=k h
theorem k_{A B:Prop}(k:B→A:=by intro b;first|exact A3 rfl (Q7 rfl b)|exact A3 rfl (Q8 rfl b)|exact As (Q7 rfl b)|exact As (Q8 rfl b))(h:B):A:=k h
theorem BL(i:Nat){A B:Prop}(k:Do i B A:=by first|exact D0 rfl (Q7 rfl ⟨rfl,rfl⟩)|exact D0 rfl (Q8 rfl ⟨rfl,rfl⟩)|exact D1 rfl (fun _ _=>Q7 rfl ⟨rfl,rfl⟩)|exact D1 rfl (fun _ _=>Q8 rfl ⟨rfl,rfl⟩))(h:B):A:=k h
theorem Bk{A B:Prop}(k:B→A:=by intro b;first|exact A3 rfl (Ot (by repeat (first|exact FillA.nil _|(apply FillA.cons;(focus exact rfl);(focus exact rfl);(focus exact rfl);(focus exact rfl);(focus exact rfl);(focus (repeat constructor))))) b)|exact As (Ot (by repeat (first|exact FillA.nil _|(apply FillA.cons;(focus exact rfl);(focus exact rfl);(focus exact rfl);(focus exact rfl);(focus exact rfl);(focus (repeat constructor))))) b))(h:B):A:=k h
theorem KZ(i:Nat){A B:Prop}(k:Do i B A:=by first|exact D0 rfl (Ot (by repeat (first|exact FillA.nil _|(apply FillA.cons;(focus exact rfl);(focus exact rfl);(focus exact rfl);(focus exact rfl);(focus exact rfl);(focus (repeat constructor))))) ⟨rfl,rfl⟩)|exact D1 rfl (fun _ _=>Ot (by repeat (first|exact FillA.nil _|(apply FillA.cons;(focus exact rfl);(focus exact rfl);(focus exact rfl);(focus exact rfl);(focus exact rfl);(focus (repeat constructor))))) ⟨rfl,rfl⟩))(h:B):A:=k h
theorem BX{A B:Prop}(k:B→A:=by intro b;first|exact A3 rfl (Ou (by repeat (first|exact DenseA.nil _|(apply DenseA.cons;(focus exact rfl);(focus exact rfl);(focus exact rfl);(focus exact rfl))|(apply DenseA.consE;(focus exact rfl);(focus exact rfl);(focus exact rfl)))) rfl rfl rfl rfl b)|exact As (Ou (by repeat (first|exact DenseA.nil _|(apply DenseA.cons;(focus exact rfl);(focus exact rfl);(focus exact rfl);(focus exact rfl))|(apply DenseA.consE;(focus exact rfl);(focus exact rfl);(focus exact rfl)))) rfl rfl rfl rfl b))(h:B):A:=k h
theorem K4(i:Nat){A B:Prop}(k:Do i B A:=by first|exact D0 rfl (Ou (by repeat (first|exact DenseA.nil _|(apply DenseA.cons;(focus exact rfl);(focus exact rfl);(focus exact rfl);(focus exact rfl))|(apply DenseA.consE;(focus exact rfl);(focus exact rfl);(focus exact rfl)))) rfl rfl rfl rfl ⟨rfl,rfl⟩)|exact D1 rfl (fun _ _=>Ou (by repeat (first|exact DenseA.nil _|(apply DenseA.cons;(focus exact rfl);(focus exact rfl);(focus exact rfl);(focus exact rfl))|(apply DenseA.consE;(focus exact rfl);(focus exact rfl);(focus exact rfl)))) rfl rfl rfl rfl ⟨rfl,rfl⟩))(h:B):A:=k h
theorem CD{A B:Prop}(k:B→A:=by intro b;first|exact A3 rfl (Qm b)|exact As (Qm b))(h:B):A:=k h
theorem Hk(i:Nat){A B:Prop}(k:Do i B A:=by first|exact D0 rfl (Qm ⟨rfl,rfl⟩)|exact D1 rfl (fun _ _=>Qm ⟨rfl,rfl⟩))(h:B):A:=k h
theorem Bh{A B:Prop}(k:B→A:=by intro b;first|exact A3 rfl (Qn b)|exact As (Qn b))(h:B):A:=k h
theorem FB(i:Nat){A B:Prop}(k:Do i B A:=by first|exact D0 rfl (Qn ⟨rfl,rfl⟩)|exact D1 rfl (fun _ _=>Qn ⟨rfl,rfl⟩))(h:B):A:=k h
theorem Sj{A B:Prop}(k:B→A:=by intro b;first|exact A3 rfl (Uy rfl b)|exact As (Uy rfl b))(h:B):A:=k h
theorem i_{A B:Prop}(k:B→A:=by intro b;first|exact A3 rfl (DE rfl rfl rfl (by first|assumption|rfl) b)|exact As (DE rfl rfl rfl (by first|assumption|rfl) b))(h:B):A:=k h
theorem CL(i:Nat){A B:Prop}(k:Do i B A:=by first|exact D0 rfl (DE rfl rfl rfl (by first|assumption|rfl) ⟨rfl,rfl⟩)|exact D1 rfl (fun _ _=>DE rfl rfl rfl (by first|assumption|rfl) ⟨rfl,rfl⟩))(h:B):A:=k h
theorem cD{A B:Prop}(k:B→A:=by intro b;first|exact A3 rfl (SV rfl rfl (by omega) (by repeat constructor) b)|exact As (SV rfl rfl (by omega) (by repeat constructor) b))(h:B):A:=k h
theorem Ck{A B:Prop}(k:B→A:=by intro b;first|exact A3 rfl (QQ rfl b)|exact As (QQ rfl b))(h:B):A:=k h
theorem cF(i:Nat){A B:Prop}(k:Do i B A:=by first|exact D0 rfl (QQ rfl ⟨rfl,rfl⟩)|exact D1 rfl (fun _ _=>QQ rfl ⟨rfl,rfl⟩))(h:B):A:=k h
theorem Ec{A B:Prop}(k:B→A:=by intro b;first|exact A3 rfl (Nw rfl rfl (by omega) b)|exact A3 rfl (H0 rfl rfl (by omega) b)|exact A3 rfl (SL rfl rfl b)|exact As (Nw rfl rfl (by omega) b)|exact As (H0 rfl rfl (by omega) b)|exact As (SL rfl rfl b))(h:B):A:=k h
theorem JE{A B:Prop}(k:B→A:=by intro b;first|exact A3 rfl (MV rfl rfl (by omega) b)|exact A3 rfl (Oq rfl rfl b)|exact As (MV rfl rfl (by omega) b)|exact As (Oq rfl rfl b))(h:B):A:=k h
theorem Sk(i:Nat){A B:Prop}(k:Do i B A:=by first|exact D0 rfl (MV rfl rfl (by omega) ⟨rfl,rfl⟩)|exact D0 rfl (Oq rfl rfl ⟨rfl,rfl⟩)|exact D1 rfl (fun _ _=>MV rfl rfl (by omega) ⟨rfl,rfl⟩)|exact D1 rfl (fun _ _=>Oq rfl rfl ⟨rfl,rfl⟩))(h:B):A:=k h
theorem cG{A B:Prop}(k:B→A:=by intro b;first|exact A3 rfl (V4 rfl rfl b)|exact As (V4 rfl rfl b))(h:B):A:=k h
theorem Dt{A B:Prop}(k:B→A:=by intro b;first|exact A3 rfl (QF rfl rfl b)|exact A3 rfl (QM rfl rfl b)|exact A3 rfl (Qf (by kernel_rfl) rfl rfl b)|exact As (QF rfl rfl b)|exact As (QM rfl rfl b)|exact As (Qf (by kernel_rfl) rfl rfl b))(h:B):A:=k h
theorem JF(i:Nat){A B:Prop}(k:Do i B A:=by first|exact D0 rfl (QF rfl rfl ⟨rfl,rfl⟩)|exact D0 rfl (QM rfl rfl ⟨rfl,rfl⟩)|exact D0 rfl (Qf (by kernel_rfl) rfl rfl ⟨rfl,rfl⟩)|exact D1 rfl (fun _ _=>QF rfl rfl ⟨rfl,rfl⟩)|exact D1 rfl (fun _ _=>QM rfl rfl ⟨rfl,rfl⟩)|exact D1 rfl (fun _ _=>Qf (by kernel_rfl) rfl rfl ⟨rfl,rfl⟩))(h:B):A:=k h
theorem Gd{A B:Prop}(k:B→A:=by intro b;first|exact A3 rfl (QG rfl rfl b)|exact A3 rfl (QN rfl rfl b)|exact A3 rfl (Qg (by kernel_rfl) rfl rfl b)|exact As (QG rfl rfl b)|exact As (QN rfl rfl b)|exact As (Qg (by kernel_rfl) rfl rfl b))(h:B):A:=k h
theorem Lv(i:Nat){A B:Prop}(k:Do i B A:=by first|exact D0 rfl (QG rfl rfl ⟨rfl,rfl⟩)|exact D0 rfl (QN rfl rfl ⟨rfl,rfl⟩)|exact D0 rfl (Qg (by kernel_rfl) rfl rfl ⟨rfl,rfl⟩)|exact D1 rfl (fun _ _=>QG rfl rfl ⟨rfl,rfl⟩)|exact D1 rfl (fun _ _=>QN rfl rfl ⟨rfl,rfl⟩)|exact D1 rfl (fun _ _=>Qg (by kernel_rfl) rfl rfl ⟨rfl,rfl⟩))(h:B):A:=k h
theorem JG{A B:Prop}(k:B→A:=by intro b;first|exact A3 rfl (QH rfl rfl b)|exact A3 rfl (QO rfl rfl b)|exact As (QH rfl rfl b)|exact As (QO rfl rfl b))(h:B):A:=k h
theorem Vi(i:Nat){A B:Prop}(k:Do i B A:=by first|exact D0 rfl (QH rfl rfl ⟨rfl,rfl⟩)|exact D0 rfl (QO rfl rfl ⟨rfl,rfl⟩)|exact D1 rfl (fun _ _=>QH rfl rfl ⟨rfl,rfl⟩)|exact D1 rfl (fun _ _=>QO rfl rfl ⟨rfl,rfl⟩))(h:B):A:=k h
theorem Fg{A B:Prop}(k:B→A:=by intro b;first|exact A3 rfl (QJ rfl rfl b)|exact As (QJ rfl rfl b))(h:B):A:=k h
theorem cH(i:Nat){A B:Prop}(k:Do i B A:=by first|exact D0 rfl (QJ rfl rfl ⟨rfl,rfl⟩)|exact D1 rfl (fun _ _=>QJ rfl rfl ⟨rfl,rfl⟩))(h:B):A:=k h
theorem Ed{A B:Prop}(k:B→A:=by intro b;first|exact A3 rfl (QK rfl rfl b)|exact As (QK rfl rfl b))(h:B):A:=k h
theorem Sl(i:Nat){A B:Prop}(k:Do i B A:=by first|exact D0 rfl (QK rfl rfl ⟨rfl,rfl⟩)|exact D1 rfl (fun _ _=>QK rfl rfl ⟨rfl,rfl⟩))(h:B):A:=k h
theorem DR{A B:Prop}(k:B→A:=by intro b;first|exact A3 rfl (QL rfl rfl b)|exact A3 rfl (QP rfl rfl b)|exact As (QL rfl rfl b)|exact As (QP rfl rfl b))(h:B):A:=k h
theorem Vj(i:Nat){A B:Prop}(k:Do i B A:=by first|exact D0 rfl (QL rfl rfl ⟨rfl,rfl⟩)|exact D0 rfl (QP rfl rfl ⟨rfl,rfl⟩)|exact D1 rfl (fun _ _=>QL rfl rfl ⟨rfl,rfl⟩)|exact D1 rfl (fun _ _=>QP rfl rfl ⟨rfl,rfl⟩))(h:B):A:=k h
theorem ES{A B:Prop}(k:B→A:=by intro b;first|exact A3 rfl (Qe rfl rfl b)|exact As (Qe rfl rfl b))(h:B):A:=k h
theorem cJ(i:Nat){A B:Prop}(k:Do i B A:=by first|exact D0 rfl (Qe rfl rfl ⟨rfl,rfl⟩)|exact D1 rfl (fun _ _=>Qe rfl rfl ⟨rfl,rfl⟩))(h:B):A:=k h
theorem at_{A B:Prop}(k:B→A:=by intro b;first|exact A3 rfl (VX rfl rfl b)|exact As (VX rfl rfl b))(h:B):A:=k h
theorem cK{A B:Prop}(k:B→A:=by intro b;first|exact A3 rfl (VQ rfl rfl b)|exact As (VQ rfl rfl b))(h:B):A:=k h
theorem P5{A B:Prop}(k:B→A:=by intro b;first|exact A3 rfl (VR rfl rfl (by omega) b)|exact As (VR rfl rfl (by omega) b))(h:B):A:=k h
theorem Be{f:Nat→Option AV}{bx:List (List AV)}{tk:List (Nat×Nat×List (List AV))}{l:List (Nat×AV)}{N:Dim}(n m:Nat){bx':List (List AV)}{tk':List (Nat×Nat×List (List AV))}(hbp:AY n m bx'=true)(hn:Nat.ble N.ni n=true:=by rfl)(hb:bx.take n=bx':=by rfl)(ht:tk.take m=tk':=by rfl)(hl:Sub n m f l:=by repeat (first|exact Sub.nil|refine Sub.cons _ _ _ rfl rfl ?_|refine Sub.any _ _ ?_|refine Sub.sl _ _ _ _ _ rfl ?_|refine Sub.slnil _ _ _ rfl ?_)):Weak N ⟨f,⟨bx,tk⟩⟩ ⟨look l,⟨bx',tk'⟩⟩:=Ah n m hn hb ht hbp hl
theorem Du{P:Program}{ev:Operand→Option AV}{h:AH}{R:AV→AH→Prop}{d:Option Tmp}{ty:TypeId}{pos:String}{af:Array Edge}{gd:Option (Nat×Bool)}{T:TypeId}{l:List (Nat×Operand)}{pl:List (Nat×Nat)}{row cs:List AV}[hp:Plc P T pl][hz:Zer P T row](hR:R (.agg cs) h)(hf:FillA pl ev row l cs:=by repeat (first|exact FillA.nil _|(apply FillA.cons;(focus exact rfl);(focus exact rfl);(focus exact rfl);(focus exact rfl);(focus exact rfl);(focus (repeat constructor))))):AStep P ⟨d, .build T l.toArray,ty,pos,af,gd⟩ ev h R:=Ot hf hR
theorem H5{P:Program}{ev:Operand→Option AV}{h:AH}{R:AV→AH→Prop}{o:Oper}{x y:AV}(hs:AStep P o ev h fun r h'=>r=x∧h'=h)(hR:R y h)(hl:LeA x y:=by repeat (first|exact A7 _|exact LeA.nil _|exact LeL.refl _|refine LeA.agg ?_|refine LeA.tup ?_|exact LeL.nil|refine LeL.cons ?_ ?_|exact LeA.any _)):AStep P o ev h R:=Hf hs hl hR
theorem A4{P:Program}{N:Dim}{Q:Exit→AS→Prop}{s:AS}{c:Operand}{x y:Code}{t:Bool}{p q:Prop}[BP t true p][BP t false q](hc:Ca s.sl c=some (.v (.bool t)))(ht:t=true→p→Bv P N x Q s)(hf:t=false→q→Bv P N y Q s):Bv P N (.cond c x y) Q s:=S7 hc (fun h=>ht h (bp h)) (fun h=>hf h (bp h))
theorem AJ{P:Program}{N:Dim}{Q:Exit→AS→Prop}{ops:Array Oper}{rest:List Oper}{l:List (Nat×AV)}{hh:AH}{o:Oper}{j:Nat}{t:Bool}{p q:Prop}[BP t true p][BP t false q](want:Bool)(hg:o.guard=some (j,want))(hy:yv ops (look l) j=some (some t))(h1:t=true→p→AL P N ops Q (o::rest) ⟨look l,hh⟩)(h2:t=false→q→AL P N ops Q (o::rest) ⟨look l,hh⟩):AL P N ops Q (o::rest) ⟨look l,hh⟩:=bL want hg hy (fun h=>h1 h (bp h)) (fun h=>h2 h (bp h))
theorem B2{n m i:Nat}{r:AV}{bx bx':List (List AV)}{xs:List (List AV)}{Z:List (List AV)→Prop}(h:Z bx')(h1:AQ n m r=true:=by rfl)(hs:SetAt bx i xs bx':=by repeat constructor):AQ n m r=true∧∃b,SetAt bx i xs b∧Z b:=⟨h1,bx',hs,h⟩
theorem cL{P:Program}{N:Dim}{l:List Oper}{Q:Exit→AS→Prop}{S:AH→Prop}{tl fuel:Nat}{listed:Array Bool}{m:List (Nat×AV)}{ty:TypeId}{pos:String}{af:Array Edge}{gd:Option (Nat×Bool)}{bx bx':List (List AV)}{tk:List Cd}{i T sz a o:Nat}{ag:Bool}{x y:Operand}{av:AV}{row row':List AV}[Typ P T sz ag](hi:l[i]?=some ⟨none,.store T x y,ty,pos,af,gd⟩)(hx:Ca (look m) x=some (.bp a o))(hy:Ca (look m) y=some av)(hb:bx[a]?=some row)(h1:JA (CX av)=true)(hl:Nat.beq (CX av).length sz=true)(hpos:Nat.blt 0 sz=true)(hs:SetAt row o (CX av) row')(hset:SetAt bx a [row'] bx')(hr:Region.ready .any l.toArray listed=[i])(hw:Cj l.toArray (look m) ⟨none,.store T x y,ty,pos,af,gd⟩=some true)(hS:Nat.ble tl i=true∨S ⟨bx',tk⟩):Do i (AAny P N l.toArray Q S tl fuel (listed.setIfInBounds i true) ⟨look m,⟨bx',tk⟩⟩) (AAny P N l.toArray Q S tl (fuel+1) listed ⟨look m,⟨bx,tk⟩⟩):=fun H=>Hj i hi (Ep hx hy hb h1 hl hpos hs hset ⟨hS,H⟩) hr hw
theorem B8(i:Nat){A B:Prop}(k:Do i B A:=by exact cL rfl rfl rfl rfl rfl rfl rfl (by repeat constructor) (by repeat constructor) (by kernel_rfl) (by first|rfl|exact BQ rfl rfl (EZ ‹_›)|exact BQ rfl rfl (Ea ‹_›)|exact BQ rfl rfl (by simp[*])) (by first|exact .inl rfl|exact .inr rfl|exact .inr (by repeat (first|exact O1 _|refine O2 rfl ?_))))(h:B):A:=k h
theorem ET{A:Prop}(h:False:=by first|contradiction|omega):A:=h.elim
structure HsB (B:Prop):Prop where
 h:B
theorem BO{A B:Prop}(k:HsB B→A:=by intro b;exact a_ (h:=e_ (b.1)))(h:B):A:=k ⟨h⟩
theorem AO{A B:Prop}(k:HsB B→A:=by intro b;exact f_ (h:=l_ (h:=b.1)))(h:B):A:=k ⟨h⟩
theorem BY{A B:Prop}(k:HsB B→A:=by intro b;exact Hi (h:=Hi (h:=b.1)))(h:B):A:=k ⟨h⟩
theorem Az{A B:Prop}(k:HsB B→A:=by intro b;exact BO (h:=B3 (b.1)))(h:B):A:=k ⟨h⟩
theorem Aa{A B:Prop}(k:HsB B→A:=by intro b;exact w_ (m_ (h:=b.1)))(h:B):A:=k ⟨h⟩
theorem Hl{A B:Prop}(k:HsB B→A:=by intro b;exact BY (h:=Hi (h:=b.1)))(h:B):A:=k ⟨h⟩
theorem K5{A B:Prop}(k:HsB B→A:=by intro b;exact w_ (Az (h:=b.1)))(h:B):A:=k ⟨h⟩
theorem EU{A B:Prop}(k:HsB B→A:=by intro b;exact Dt (h:=BO (h:=b.1)))(h:B):A:=k ⟨h⟩
theorem Bf{A B:Prop}(k:HsB B→A:=by intro b;exact q_ (Aa (h:=b.1)))(h:B):A:=k ⟨h⟩
theorem Ay{A B:Prop}(k:HsB B→A:=by intro b;exact w_ (AO (h:=b.1)))(h:B):A:=k ⟨h⟩
theorem Fu{A B:Prop}(k:HsB B→A:=by intro b;exact Hl (h:=CD (h:=b.1)))(h:B):A:=k ⟨h⟩
theorem BB{A B:Prop}(k:HsB B→A:=by intro b;exact BY (h:=BY (h:=b.1)))(h:B):A:=k ⟨h⟩
theorem Hm{A B:Prop}(k:HsB B→A:=by intro b;exact Bk (h:=s_ (h:=b.1)))(h:B):A:=k ⟨h⟩
theorem Mf{A B:Prop}(k:HsB B→A:=by intro b;exact CU (h:=s_ (h:=b.1)))(h:B):A:=k ⟨h⟩
theorem C4{A B:Prop}(k:HsB B→A:=by intro b;exact w_ (l_ (h:=b.1)))(h:B):A:=k ⟨h⟩
theorem Bc{A B:Prop}(k:HsB B→A:=by intro b;exact Bh (h:=m_ (h:=b.1)))(h:B):A:=k ⟨h⟩
theorem C2{A B:Prop}(k:HsB B→A:=by intro b;exact Aw (m_ (h:=b.1)))(h:B):A:=k ⟨h⟩
theorem Sm{A B:Prop}(k:HsB B→A:=by intro b;exact Az (h:=Lr (b.1)))(h:B):A:=k ⟨h⟩
theorem Ax{A B:Prop}(k:HsB B→A:=by intro b;exact Sm (h:=BN (b.1)))(h:B):A:=k ⟨h⟩
theorem Bo{A B:Prop}(k:HsB B→A:=by intro b;exact BO (h:=Bf (h:=b.1)))(h:B):A:=k ⟨h⟩
theorem Ka{A B:Prop}(k:HsB B→A:=by intro b;exact Me (h:=Me (h:=b.1)))(h:B):A:=k ⟨h⟩
theorem Ak{A B:Prop}(k:HsB B→A:=by intro b;exact w_ (EU (h:=b.1)))(h:B):A:=k ⟨h⟩
theorem Ky{A B:Prop}(k:HsB B→A:=by intro b;exact x_ (h:=x_ (h:=b.1)))(h:B):A:=k ⟨h⟩
theorem Dd{A B:Prop}(k:HsB B→A:=by intro b;exact Az (h:=BN (b.1)))(h:B):A:=k ⟨h⟩
theorem Bt{A B:Prop}(k:HsB B→A:=by intro b;exact BO (h:=Aa (h:=b.1)))(h:B):A:=k ⟨h⟩
theorem H6{A B:Prop}(k:HsB B→A:=by intro b;exact a_ (h:=Bw (b.1)))(h:B):A:=k ⟨h⟩
theorem Dh{A B:Prop}(k:HsB B→A:=by intro b;exact f_ (h:=s_ (h:=b.1)))(h:B):A:=k ⟨h⟩
theorem EG{A B:Prop}(k:HsB B→A:=by intro b;exact w_ (b_ (h:=b.1)))(h:B):A:=k ⟨h⟩
theorem Qw{A B:Prop}(k:HsB B→A:=by intro b;exact C2 (h:=Ec (h:=b.1)))(h:B):A:=k ⟨h⟩
theorem NH{A B:Prop}(k:HsB B→A:=by intro b;exact Qw (h:=H6 (h:=b.1)))(h:B):A:=k ⟨h⟩
theorem Ge{A B:Prop}(k:HsB B→A:=by intro b;exact m_ (h:=Ky (h:=b.1)))(h:B):A:=k ⟨h⟩
theorem K6{A B:Prop}(k:HsB B→A:=by intro b;exact E3 (h:=K5 (h:=b.1)))(h:B):A:=k ⟨h⟩
theorem Hn{A B:Prop}(k:HsB B→A:=by intro b;exact f_ (h:=AO (h:=b.1)))(h:B):A:=k ⟨h⟩
theorem Lw{A B:Prop}(k:HsB B→A:=by intro b;exact EG (h:=b_ (h:=b.1)))(h:B):A:=k ⟨h⟩
theorem CA{A B:Prop}(k:HsB B→A:=by intro b;exact C4 (h:=l_ (h:=b.1)))(h:B):A:=k ⟨h⟩
theorem Ce{A B:Prop}(k:HsB B→A:=by intro b;exact AO (h:=Gd (h:=b.1)))(h:B):A:=k ⟨h⟩
theorem Cl{A B:Prop}(k:HsB B→A:=by intro b;exact Fu (h:=m_ (h:=b.1)))(h:B):A:=k ⟨h⟩
theorem Cu{A B:Prop}(k:HsB B→A:=by intro b;exact Hl (h:=Bh (h:=b.1)))(h:B):A:=k ⟨h⟩
theorem JH{A B:Prop}(k:HsB B→A:=by intro b;exact w_ (Hm (h:=b.1)))(h:B):A:=k ⟨h⟩
theorem D7{A B:Prop}(k:HsB B→A:=by intro b;exact w_ (BO (h:=b.1)))(h:B):A:=k ⟨h⟩
theorem Ee{A B:Prop}(k:HsB B→A:=by intro b;exact Ge (h:=Mf (h:=b.1)))(h:B):A:=k ⟨h⟩
theorem Bu{A B:Prop}(k:HsB B→A:=by intro b;exact CD (h:=m_ (h:=b.1)))(h:B):A:=k ⟨h⟩
theorem Bx{A B:Prop}(k:HsB B→A:=by intro b;exact JH (h:=Dd (h:=b.1)))(h:B):A:=k ⟨h⟩
theorem BK{A B:Prop}(k:HsB B→A:=by intro b;exact K5 (h:=BN (b.1)))(h:B):A:=k ⟨h⟩
theorem Cv{A B:Prop}(k:HsB B→A:=by intro b;exact JG (h:=e_ (b.1)))(h:B):A:=k ⟨h⟩
theorem EV{A B:Prop}(k:HsB B→A:=by intro b;exact a_ (h:=Dd (h:=b.1)))(h:B):A:=k ⟨h⟩
theorem CE{A B:Prop}(k:HsB B→A:=by intro b;exact m_ (h:=Dt (h:=b.1)))(h:B):A:=k ⟨h⟩
theorem Fh{A B:Prop}(k:HsB B→A:=by intro b;exact q_ (Ay (h:=b.1)))(h:B):A:=k ⟨h⟩
theorem D8{A B:Prop}(k:HsB B→A:=by intro b;exact Lr (BN (b.1)))(h:B):A:=k ⟨h⟩
theorem CB{A B:Prop}(k:HsB B→A:=by intro b;exact K5 (h:=D8 (h:=b.1)))(h:B):A:=k ⟨h⟩
theorem CN{A B:Prop}(k:HsB B→A:=by intro b;exact AO (h:=Dt (h:=b.1)))(h:B):A:=k ⟨h⟩
theorem Qx{A B:Prop}(k:HsB B→A:=by intro b;exact NH (h:=AR (b.1)))(h:B):A:=k ⟨h⟩
theorem Fv{A B:Prop}(k:HsB B→A:=by intro b;exact Hl (h:=Bc (h:=b.1)))(h:B):A:=k ⟨h⟩
theorem CO{A B:Prop}(k:HsB B→A:=by intro b;exact Bh (h:=e_ (b.1)))(h:B):A:=k ⟨h⟩
theorem Fi{A B:Prop}(k:HsB B→A:=by intro b;exact n_ (h:=Cv (h:=b.1)))(h:B):A:=k ⟨h⟩
theorem cM{A B:Prop}(k:HsB B→A:=by intro b;exact t_ (Qx (h:=b.1)))(h:B):A:=k ⟨h⟩
theorem Ef{A B:Prop}(k:HsB B→A:=by intro b;exact BA (cM (h:=b.1)))(h:B):A:=k ⟨h⟩
theorem Bd{A B:Prop}(k:HsB B→A:=by intro b;exact Dt (h:=e_ (b.1)))(h:B):A:=k ⟨h⟩
theorem D9{A B:Prop}(k:HsB B→A:=by intro b;exact K6 (h:=D8 (h:=b.1)))(h:B):A:=k ⟨h⟩
theorem DA{A B:Prop}(k:HsB B→A:=by intro b;exact Aa (h:=m_ (h:=b.1)))(h:B):A:=k ⟨h⟩
theorem Bl{A B:Prop}(k:HsB B→A:=by intro b;exact Gd (h:=e_ (b.1)))(h:B):A:=k ⟨h⟩
theorem GG{A B:Prop}(k:HsB B→A:=by intro b;exact m_ (h:=i_ (h:=b.1)))(h:B):A:=k ⟨h⟩
theorem DS{A B:Prop}(k:HsB B→A:=by intro b;exact CD (h:=e_ (b.1)))(h:B):A:=k ⟨h⟩
theorem DK{A B:Prop}(k:HsB B→A:=by intro b;exact JG (h:=m_ (h:=b.1)))(h:B):A:=k ⟨h⟩
theorem NJ{A B:Prop}(k:HsB B→A:=by intro b;exact D7 (h:=BF (b.1)))(h:B):A:=k ⟨h⟩
theorem D2{A B:Prop}(k:HsB B→A:=by intro b;exact Ck (h:=e_ (b.1)))(h:B):A:=k ⟨h⟩
theorem De{A B:Prop}(k:HsB B→A:=by intro b;exact Bf (h:=m_ (h:=b.1)))(h:B):A:=k ⟨h⟩
theorem Di{A B:Prop}(k:HsB B→A:=by intro b;exact C4 (h:=s_ (h:=b.1)))(h:B):A:=k ⟨h⟩
theorem JJ{A B:Prop}(k:HsB B→A:=by intro b;exact Ee (h:=Bo (h:=b.1)))(h:B):A:=k ⟨h⟩
theorem Dj{A B:Prop}(k:HsB B→A:=by intro b;exact k_ (h:=Hn (h:=b.1)))(h:B):A:=k ⟨h⟩
theorem Kz{A B:Prop}(k:HsB B→A:=by intro b;exact Ka (h:=Me (h:=b.1)))(h:B):A:=k ⟨h⟩
theorem Dv{A B:Prop}(k:HsB B→A:=by intro b;exact Aa (h:=Az (h:=b.1)))(h:B):A:=k ⟨h⟩
theorem DT{A B:Prop}(k:HsB B→A:=by intro b;exact q_ (NJ (h:=b.1)))(h:B):A:=k ⟨h⟩
theorem E4{A B:Prop}(k:HsB B→A:=by intro b;exact Dt (h:=m_ (h:=b.1)))(h:B):A:=k ⟨h⟩
theorem E5{A B:Prop}(k:HsB B→A:=by intro b;exact EG (h:=CU (h:=b.1)))(h:B):A:=k ⟨h⟩
theorem Dk{A B:Prop}(k:HsB B→A:=by intro b;exact BN (D8 (h:=b.1)))(h:B):A:=k ⟨h⟩
theorem Vk{A B:Prop}(k:HsB B→A:=by intro b;exact t_ (K5 (h:=b.1)))(h:B):A:=k ⟨h⟩
theorem EH{A B:Prop}(k:HsB B→A:=by intro b;exact Ck (h:=m_ (h:=b.1)))(h:B):A:=k ⟨h⟩
theorem Mg{A B:Prop}(k:HsB B→A:=by intro b;exact Bf (h:=AO (h:=b.1)))(h:B):A:=k ⟨h⟩
theorem GH{A B:Prop}(k:HsB B→A:=by intro b;exact Bw (AR (b.1)))(h:B):A:=k ⟨h⟩
theorem EJ{A B:Prop}(k:HsB B→A:=by intro b;exact Bh (h:=GH (h:=b.1)))(h:B):A:=k ⟨h⟩
theorem EK{A B:Prop}(k:HsB B→A:=by intro b;exact C2 (h:=m_ (h:=b.1)))(h:B):A:=k ⟨h⟩
theorem Dw{A B:Prop}(k:HsB B→A:=by intro b;exact Mf (h:=e_ (b.1)))(h:B):A:=k ⟨h⟩
theorem EW{A B:Prop}(k:HsB B→A:=by intro b;exact CD (h:=BO (h:=b.1)))(h:B):A:=k ⟨h⟩
theorem Eg{A B:Prop}(k:HsB B→A:=by intro b;exact AO (h:=AO (h:=b.1)))(h:B):A:=k ⟨h⟩
theorem Cm{A B:Prop}(k:HsB B→A:=by intro b;exact BG (Ef (h:=b.1)))(h:B):A:=k ⟨h⟩
theorem L0{A B:Prop}(k:HsB B→A:=by intro b;exact C4 (h:=m_ (h:=b.1)))(h:B):A:=k ⟨h⟩
theorem Cw{A B:Prop}(k:HsB B→A:=by intro b;exact H6 (h:=AR (b.1)))(h:B):A:=k ⟨h⟩
theorem FC{A B:Prop}(k:HsB B→A:=by intro b;exact Lw (h:=BO (h:=b.1)))(h:B):A:=k ⟨h⟩
theorem Sn{A B:Prop}(k:HsB B→A:=by intro b;exact DS (h:=K6 (h:=b.1)))(h:B):A:=k ⟨h⟩
theorem FD{A B:Prop}(k:HsB B→A:=by intro b;exact Gd (h:=m_ (h:=b.1)))(h:B):A:=k ⟨h⟩
theorem LR{A B:Prop}(k:HsB B→A:=by intro b;exact Ka (h:=Ka (h:=b.1)))(h:B):A:=k ⟨h⟩
theorem FE{A B:Prop}(k:HsB B→A:=by intro b;exact CD (h:=GH (h:=b.1)))(h:B):A:=k ⟨h⟩
theorem FF{A B:Prop}(k:HsB B→A:=by intro b;exact JH (h:=EV (h:=b.1)))(h:B):A:=k ⟨h⟩
theorem FU{A B:Prop}(k:HsB B→A:=by intro b;exact Lw (h:=CU (h:=b.1)))(h:B):A:=k ⟨h⟩
theorem FV{A B:Prop}(k:HsB B→A:=by intro b;exact CO (h:=Hh (h:=b.1)))(h:B):A:=k ⟨h⟩
theorem FW{A B:Prop}(k:HsB B→A:=by intro b;exact n_ (h:=Ed (h:=b.1)))(h:B):A:=k ⟨h⟩
theorem FX{A B:Prop}(k:HsB B→A:=by intro b;exact BY (h:=Fv (h:=b.1)))(h:B):A:=k ⟨h⟩
theorem DF{A B:Prop}(k:HsB B→A:=by intro b;exact Dh (h:=e_ (b.1)))(h:B):A:=k ⟨h⟩
theorem Fj{A B:Prop}(k:HsB B→A:=by intro b;exact BY (h:=Bh (h:=b.1)))(h:B):A:=k ⟨h⟩
theorem DU{A B:Prop}(k:HsB B→A:=by intro b;exact AG (Fh (h:=b.1)))(h:B):A:=k ⟨h⟩
theorem Fw{A B:Prop}(k:HsB B→A:=by intro b;exact a_ (h:=Ax (h:=b.1)))(h:B):A:=k ⟨h⟩
theorem Fx{A B:Prop}(k:HsB B→A:=by intro b;exact Kz (h:=Hi (h:=b.1)))(h:B):A:=k ⟨h⟩
theorem Fy{A B:Prop}(k:HsB B→A:=by intro b;exact BO (h:=Fh (h:=b.1)))(h:B):A:=k ⟨h⟩
theorem Fz{A B:Prop}(k:HsB B→A:=by intro b;exact Mg (h:=Fi (h:=b.1)))(h:B):A:=k ⟨h⟩
theorem So{A B:Prop}(k:HsB B→A:=by intro b;exact MR (Jz (b.1)))(h:B):A:=k ⟨h⟩
theorem cN{A B:Prop}(k:HsB B→A:=by intro b;exact So (h:=Jz (b.1)))(h:B):A:=k ⟨h⟩
theorem Kb{A B:Prop}(k:HsB B→A:=by intro b;exact cN (h:=LJ (b.1)))(h:B):A:=k ⟨h⟩
theorem CP{A B:Prop}(k:HsB B→A:=by intro b;exact Kb (h:=t_ (b.1)))(h:B):A:=k ⟨h⟩
theorem Fk{A B:Prop}(k:HsB B→A:=by intro b;exact Kb (h:=Vk (h:=b.1)))(h:B):A:=k ⟨h⟩
theorem Eh{A B:Prop}(k:HsB B→A:=by intro b;exact AG (q_ (b.1)))(h:B):A:=k ⟨h⟩
theorem By{A B:Prop}(k:HsB B→A:=by intro b;exact Eh (h:=BF (b.1)))(h:B):A:=k ⟨h⟩
theorem GJ{A B:Prop}(k:HsB B→A:=by intro b;exact Ce (h:=m_ (h:=b.1)))(h:B):A:=k ⟨h⟩
theorem GK{A B:Prop}(k:HsB B→A:=by intro b;exact BO (h:=Hh (h:=b.1)))(h:B):A:=k ⟨h⟩
theorem GL{A B:Prop}(k:HsB B→A:=by intro b;exact BY (h:=Cl (h:=b.1)))(h:B):A:=k ⟨h⟩
theorem GM{A B:Prop}(k:HsB B→A:=by intro b;exact BY (h:=Cu (h:=b.1)))(h:B):A:=k ⟨h⟩
theorem Sq{A B:Prop}(k:HsB B→A:=by intro b;exact Bk (h:=m_ (h:=b.1)))(h:B):A:=k ⟨h⟩
theorem Gf{A B:Prop}(k:HsB B→A:=by intro b;exact CD (h:=Az (h:=b.1)))(h:B):A:=k ⟨h⟩
theorem H7{A B:Prop}(k:HsB B→A:=by intro b;exact l_ (h:=l_ (h:=b.1)))(h:B):A:=k ⟨h⟩
theorem H8{A B:Prop}(k:HsB B→A:=by intro b;exact JJ (h:=D2 (h:=b.1)))(h:B):A:=k ⟨h⟩
theorem H9{A B:Prop}(k:HsB B→A:=by intro b;exact Ay (h:=GG (h:=b.1)))(h:B):A:=k ⟨h⟩
theorem HA{A B:Prop}(k:HsB B→A:=by intro b;exact l_ (h:=m_ (h:=b.1)))(h:B):A:=k ⟨h⟩
theorem HG{A B:Prop}(k:HsB B→A:=by intro b;exact o_ (h:=z_ (h:=b.1)))(h:B):A:=k ⟨h⟩
theorem HL{A B:Prop}(k:HsB B→A:=by intro b;exact Sq (h:=s_ (h:=b.1)))(h:B):A:=k ⟨h⟩
theorem HQ{A B:Prop}(k:HsB B→A:=by intro b;exact k_ (h:=f_ (h:=b.1)))(h:B):A:=k ⟨h⟩
theorem EL{A B:Prop}(k:HsB B→A:=by intro b;exact w_ (Bt (h:=b.1)))(h:B):A:=k ⟨h⟩
theorem EM{A B:Prop}(k:HsB B→A:=by intro b;exact Fu (h:=e_ (b.1)))(h:B):A:=k ⟨h⟩
theorem EX{A B:Prop}(k:HsB B→A:=by intro b;exact AG (Bf (h:=b.1)))(h:B):A:=k ⟨h⟩
theorem Ho{A B:Prop}(k:HsB B→A:=by intro b;exact BB (h:=CD (h:=b.1)))(h:B):A:=k ⟨h⟩
theorem Hp{A B:Prop}(k:HsB B→A:=by intro b;exact CB (h:=Dk (h:=b.1)))(h:B):A:=k ⟨h⟩
theorem Hq{A B:Prop}(k:HsB B→A:=by intro b;exact CA (h:=m_ (h:=b.1)))(h:B):A:=k ⟨h⟩
theorem Sr{A B:Prop}(k:HsB B→A:=by intro b;exact BA (Vk (h:=b.1)))(h:B):A:=k ⟨h⟩
theorem Ei{A B:Prop}(k:HsB B→A:=by intro b;exact s_ (h:=e_ (b.1)))(h:B):A:=k ⟨h⟩
theorem JK{A B:Prop}(k:HsB B→A:=by intro b;exact BO (h:=DT (h:=b.1)))(h:B):A:=k ⟨h⟩
theorem JL{A B:Prop}(k:HsB B→A:=by intro b;exact E3 (h:=Aa (h:=b.1)))(h:B):A:=k ⟨h⟩
theorem JM{A B:Prop}(k:HsB B→A:=by intro b;exact AO (h:=Ed (h:=b.1)))(h:B):A:=k ⟨h⟩
theorem JN{A B:Prop}(k:HsB B→A:=by intro b;exact Lw (h:=b_ (h:=b.1)))(h:B):A:=k ⟨h⟩
theorem JO{A B:Prop}(k:HsB B→A:=by intro b;exact Fu (h:=GH (h:=b.1)))(h:B):A:=k ⟨h⟩
theorem JP{A B:Prop}(k:HsB B→A:=by intro b;exact n_ (h:=m_ (h:=b.1)))(h:B):A:=k ⟨h⟩
theorem cO{A B:Prop}(k:HsB B→A:=by intro b;exact Ec (h:=m_ (h:=b.1)))(h:B):A:=k ⟨h⟩
theorem JQ{A B:Prop}(k:HsB B→A:=by intro b;exact cO (h:=GH (h:=b.1)))(h:B):A:=k ⟨h⟩
theorem FG{A B:Prop}(k:HsB B→A:=by intro b;exact BG (Sr (h:=b.1)))(h:B):A:=k ⟨h⟩
theorem Ja{A B:Prop}(k:HsB B→A:=by intro b;exact BB (h:=BY (h:=b.1)))(h:B):A:=k ⟨h⟩
theorem Jb{A B:Prop}(k:HsB B→A:=by intro b;exact l_ (h:=Dw (h:=b.1)))(h:B):A:=k ⟨h⟩
theorem Jc{A B:Prop}(k:HsB B→A:=by intro b;exact LR (h:=Hi (h:=b.1)))(h:B):A:=k ⟨h⟩
theorem Jd{A B:Prop}(k:HsB B→A:=by intro b;exact m_ (h:=m_ (h:=b.1)))(h:B):A:=k ⟨h⟩
theorem Je{A B:Prop}(k:HsB B→A:=by intro b;exact BO (h:=L0 (h:=b.1)))(h:B):A:=k ⟨h⟩
theorem Jf{A B:Prop}(k:HsB B→A:=by intro b;exact Dh (h:=GH (h:=b.1)))(h:B):A:=k ⟨h⟩
theorem FY{A B:Prop}(k:HsB B→A:=by intro b;exact AG (Ay (h:=b.1)))(h:B):A:=k ⟨h⟩
theorem FZ{A B:Prop}(k:HsB B→A:=by intro b;exact w_ (Hn (h:=b.1)))(h:B):A:=k ⟨h⟩
theorem Fl{A B:Prop}(k:HsB B→A:=by intro b;exact Sn (h:=BN (b.1)))(h:B):A:=k ⟨h⟩
theorem CV{P:Program}{T z:Nat}{a:Bool}(h:N5 P T=some (z,a):=by kernel_rfl):Typ P T z a:=⟨h⟩
instance :Typ prog 3 1 false:=CV
instance :Typ prog 4 1 false:=CV
instance :Zer prog 4 [.v (.bool false)]:=⟨[.bool false],by kernel_rfl,rfl,rfl⟩
instance :Typ prog 9 1 false:=CV
instance :Typ prog 22 1 false:=CV
instance :Elm prog 22 3 1 8:=⟨by kernel_rfl,by decide⟩
instance :Typ prog 26 2 true:=CV
instance :Zer prog 26 [.v (.int .i64 0), .v (.int .i64 0)]:=⟨[.int .i64 0, .int .i64 0],by kernel_rfl,rfl,rfl⟩
theorem EN{P:Program}{T:Nat}{l:List (Nat×Nat)}(h:Q5 P T=some l:=by kernel_rfl):Plc P T l:=⟨h⟩
instance :Plc prog 26 [(0,1),(1,1)]:=EN
theorem B4{P:Program}{T i o z:Nat}(h:Q3 P T i=some (o,z):=by kernel_rfl):Fld P T i o z:=⟨h⟩
instance :Fld prog 26 0 0 1:=B4
instance :Fld prog 26 1 1 1:=B4
instance :Typ prog 27 1 false:=CV
instance :Elm prog 27 291 4 32:=⟨by kernel_rfl,by decide⟩
instance :Typ prog 29 14 true:=CV
instance :Zer prog 29 [.v (.int .i64 0), .v (.int .i64 0), .v (.int .i64 0), .v (.int .i64 0), .v (.int .i64 0), .v (.int .i64 0), .v (.int .i64 0), .v (.int .i64 0), .v (.int .i64 0), .v (.int .i64 0), .v (.string ⟨#[]⟩), .v (.string ⟨#[]⟩), .v (.slice none 0 0), .v (.bool false)]:=⟨[.int .i64 0, .int .i64 0, .int .i64 0, .int .i64 0, .int .i64 0, .int .i64 0, .int .i64 0, .int .i64 0, .int .i64 0, .int .i64 0, .string ⟨#[]⟩, .string ⟨#[]⟩, .slice none 0 0, .bool false],by kernel_rfl,rfl,rfl⟩
instance :Plc prog 29 [(0,1),(1,1),(2,1),(3,1),(4,1),(5,1),(6,1),(7,1),(8,2),(10,1),(11,1),(12,1),(13,1)]:=EN
instance :Fld prog 29 0 0 1:=B4
instance :Fld prog 29 1 1 1:=B4
instance :Fld prog 29 2 2 1:=B4
instance :Fld prog 29 3 3 1:=B4
instance :Fld prog 29 4 4 1:=B4
instance :Fld prog 29 5 5 1:=B4
instance :Fld prog 29 6 6 1:=B4
instance :Fld prog 29 7 7 1:=B4
instance :Fld prog 29 8 8 2:=B4
instance :Fld prog 29 9 10 1:=B4
instance :Fld prog 29 10 11 1:=B4
instance :Fld prog 29 11 12 1:=B4
instance :Fld prog 29 12 13 1:=B4
instance :Typ prog 30 4 true:=CV
instance :Zer prog 30 [.v (.int .i64 0), .v (.int .i64 0), .v (.int .i64 0), .v (.int .i64 0)]:=⟨[.int .i64 0, .int .i64 0, .int .i64 0, .int .i64 0],by kernel_rfl,rfl,rfl⟩
instance :Plc prog 30 [(0,1),(1,1),(2,1),(3,1)]:=EN
instance :Typ prog 31 1 false:=CV
instance :Elm prog 31 9 1 16:=⟨by kernel_rfl,by decide⟩
instance :Typ prog 33 7 true:=CV
instance :Zer prog 33 [.v (.int .i64 0), .v (.int .i64 0), .v (.int .i64 0), .v (.int .i64 0), .v (.int .i64 0), .v (.slice none 0 0), .v (.slice none 0 0)]:=⟨[.int .i64 0, .int .i64 0, .int .i64 0, .int .i64 0, .int .i64 0, .slice none 0 0, .slice none 0 0],by kernel_rfl,rfl,rfl⟩
instance :Plc prog 33 [(0,1),(1,4),(5,1),(6,1)]:=EN
instance :Fld prog 33 0 0 1:=B4
instance :Fld prog 33 1 1 4:=B4
instance :Fld prog 33 2 5 1:=B4
instance :Fld prog 33 3 6 1:=B4
instance :Typ prog 34 1 false:=CV
instance :Elm prog 34 121 13 128:=⟨by kernel_rfl,by decide⟩
instance :Typ prog 36 25 true:=CV
instance :Zer prog 36 [.v (.int .i64 0), .v (.int .i64 0), .v (.int .i64 0), .v (.int .i64 0), .v (.int .i64 0), .v (.int .i64 0), .v (.int .i64 0), .v (.int .i64 0), .v (.int .i64 0), .v (.int .i64 0), .v (.int .i64 0), .v (.string ⟨#[]⟩), .v (.string ⟨#[]⟩), .v (.slice none 0 0), .v (.bool false), .v (.int .i64 0), .v (.int .i64 0), .v (.int .i64 0), .v (.int .i64 0), .v (.int .i64 0), .v (.slice none 0 0), .v (.slice none 0 0), .v (.int .i64 0), .v (.slice none 0 0), .v (.int .i64 0)]:=⟨[.int .i64 0, .int .i64 0, .int .i64 0, .int .i64 0, .int .i64 0, .int .i64 0, .int .i64 0, .int .i64 0, .int .i64 0, .int .i64 0, .int .i64 0, .string ⟨#[]⟩, .string ⟨#[]⟩, .slice none 0 0, .bool false, .int .i64 0, .int .i64 0, .int .i64 0, .int .i64 0, .int .i64 0, .slice none 0 0, .slice none 0 0, .int .i64 0, .slice none 0 0, .int .i64 0],by kernel_rfl,rfl,rfl⟩
instance :Plc prog 36 [(0,1),(1,14),(15,7),(22,1),(23,1),(24,1)]:=EN
instance :Fld prog 36 0 0 1:=B4
instance :Fld prog 36 1 1 14:=B4
instance :Fld prog 36 2 15 7:=B4
instance :Fld prog 36 3 22 1:=B4
instance :Fld prog 36 4 23 1:=B4
instance :Fld prog 36 5 24 1:=B4
instance :Typ prog 37 1 false:=CV
instance :Elm prog 37 148 2 32:=⟨by kernel_rfl,by decide⟩
instance :Typ prog 39 1 true:=CV
instance :Zer prog 39 [.v (.slice none 0 0)]:=⟨[.slice none 0 0],by kernel_rfl,rfl,rfl⟩
instance :Plc prog 39 [(0,1)]:=EN
instance :Fld prog 39 0 0 1:=B4
instance :Typ prog 40 1 false:=CV
instance :Elm prog 40 185 3 24:=⟨by kernel_rfl,by decide⟩
instance :Typ prog 42 2 true:=CV
instance :Zer prog 42 [.v (.slice none 0 0), .v (.slice none 0 0)]:=⟨[.slice none 0 0, .slice none 0 0],by kernel_rfl,rfl,rfl⟩
instance :Plc prog 42 [(0,1),(1,1)]:=EN
instance :Fld prog 42 0 0 1:=B4
instance :Fld prog 42 1 1 1:=B4
instance :Typ prog 43 1 false:=CV
instance :Elm prog 43 29 14 144:=⟨by kernel_rfl,by decide⟩
instance :Typ prog 45 3 true:=CV
instance :Zer prog 45 [.v (.int .i64 0), .v (.int .i64 0), .v (.slice none 0 0)]:=⟨[.int .i64 0, .int .i64 0, .slice none 0 0],by kernel_rfl,rfl,rfl⟩
instance :Plc prog 45 [(0,1),(1,1),(2,1)]:=EN
instance :Fld prog 45 0 0 1:=B4
instance :Fld prog 45 1 1 1:=B4
instance :Fld prog 45 2 2 1:=B4
instance :Typ prog 47 5 true:=CV
instance :Zer prog 47 [.v (.slice none 0 0), .v (.slice none 0 0), .v (.int .i64 0), .v (.int .i64 0), .v (.slice none 0 0)]:=⟨[.slice none 0 0, .slice none 0 0, .int .i64 0, .int .i64 0, .slice none 0 0],by kernel_rfl,rfl,rfl⟩
instance :Plc prog 47 [(0,2),(2,3)]:=EN
instance :Fld prog 47 0 0 2:=B4
instance :Fld prog 47 1 2 3:=B4
instance :Typ prog 48 1 false:=CV
instance :Elm prog 48 248 7 64:=⟨by kernel_rfl,by decide⟩
instance :Typ prog 50 5 true:=CV
instance :Zer prog 50 [.v (.int .i64 0), .v (.int .i64 0), .v (.int .i64 0), .v (.slice none 0 0), .v (.slice none 0 0)]:=⟨[.int .i64 0, .int .i64 0, .int .i64 0, .slice none 0 0, .slice none 0 0],by kernel_rfl,rfl,rfl⟩
instance :Plc prog 50 [(0,1),(1,1),(2,1),(3,1),(4,1)]:=EN
instance :Fld prog 50 0 0 1:=B4
instance :Fld prog 50 1 1 1:=B4
instance :Fld prog 50 2 2 1:=B4
instance :Fld prog 50 3 3 1:=B4
instance :Fld prog 50 4 4 1:=B4
instance :Typ prog 54 1 false:=CV
instance :Elm prog 54 83 8 96:=⟨by kernel_rfl,by decide⟩
instance :Typ prog 57 1 false:=CV
instance :Elm prog 57 4 1 1:=⟨by kernel_rfl,by decide⟩
instance :Typ prog 61 1 false:=CV
instance :Elm prog 61 93 6 56:=⟨by kernel_rfl,by decide⟩
instance :Typ prog 63 2 true:=CV
instance :Zer prog 63 [.v (.slice none 0 0), .v (.slice none 0 0)]:=⟨[.slice none 0 0, .slice none 0 0],by kernel_rfl,rfl,rfl⟩
instance :Plc prog 63 [(0,1),(1,1)]:=EN
instance :Fld prog 63 0 0 1:=B4
instance :Fld prog 63 1 1 1:=B4
instance :Typ prog 67 3 true:=CV
instance :Zer prog 67 [.v (.bool false), .v (.int .i64 0), .v (.string ⟨#[]⟩)]:=⟨[.bool false, .int .i64 0, .string ⟨#[]⟩],by kernel_rfl,rfl,rfl⟩
instance :Plc prog 67 [(0,1),(1,1),(2,1)]:=EN
instance :Fld prog 67 0 0 1:=B4
instance :Fld prog 67 1 1 1:=B4
instance :Fld prog 67 2 2 1:=B4
instance :Typ prog 80 1 false:=CV
instance :Typ prog 81 1 false:=CV
instance :Elm prog 81 115 5 48:=⟨by kernel_rfl,by decide⟩
instance :Typ prog 83 8 true:=CV
instance :Zer prog 83 [.v (.int .i64 0), .v (.int .i64 0), .v (.int .u64 0), .v (.slice none 0 0), .v (.int .i64 0), .v (.string ⟨#[]⟩), .v (.int .i64 0), .v (.string ⟨#[]⟩)]:=⟨[.int .i64 0, .int .i64 0, .int .u64 0, .slice none 0 0, .int .i64 0, .string ⟨#[]⟩, .int .i64 0, .string ⟨#[]⟩],by kernel_rfl,rfl,rfl⟩
instance :Plc prog 83 [(0,1),(1,1),(2,1),(3,1),(4,1),(5,1),(6,1),(7,1)]:=EN
instance :Fld prog 83 0 0 1:=B4
instance :Fld prog 83 1 1 1:=B4
instance :Fld prog 83 2 2 1:=B4
instance :Fld prog 83 3 3 1:=B4
instance :Fld prog 83 4 4 1:=B4
instance :Fld prog 83 5 5 1:=B4
instance :Fld prog 83 6 6 1:=B4
instance :Fld prog 83 7 7 1:=B4
instance :Typ prog 93 6 true:=CV
instance :Zer prog 93 [.v (.int .i64 0), .v (.int .i64 0), .v (.int .i64 0), .v (.string ⟨#[]⟩), .v (.int .i64 0), .v (.int .i64 0)]:=⟨[.int .i64 0, .int .i64 0, .int .i64 0, .string ⟨#[]⟩, .int .i64 0, .int .i64 0],by kernel_rfl,rfl,rfl⟩
instance :Plc prog 93 [(0,1),(1,2),(3,1),(4,2)]:=EN
instance :Fld prog 93 0 0 1:=B4
instance :Fld prog 93 1 1 2:=B4
instance :Fld prog 93 2 3 1:=B4
instance :Fld prog 93 3 4 2:=B4
instance :Zer prog 105 [.v (.slice none 0 0), .v (.int .i64 0)]:=⟨[.slice none 0 0, .int .i64 0],by kernel_rfl,rfl,rfl⟩
instance :Plc prog 105 [(0,1),(1,1)]:=EN
instance :Fld prog 105 0 0 1:=B4
instance :Fld prog 105 1 1 1:=B4
instance :Typ prog 115 5 true:=CV
instance :Zer prog 115 [.v (.int .i64 0), .v (.int .i64 0), .v (.int .i64 0), .v (.string ⟨#[]⟩), .v (.int .i64 0)]:=⟨[.int .i64 0, .int .i64 0, .int .i64 0, .string ⟨#[]⟩, .int .i64 0],by kernel_rfl,rfl,rfl⟩
instance :Plc prog 115 [(0,1),(1,1),(2,1),(3,1),(4,1)]:=EN
instance :Fld prog 115 0 0 1:=B4
instance :Fld prog 115 1 1 1:=B4
instance :Fld prog 115 2 2 1:=B4
instance :Fld prog 115 3 3 1:=B4
instance :Fld prog 115 4 4 1:=B4
instance :Typ prog 121 13 true:=CV
instance :Zer prog 121 [.v (.string ⟨#[]⟩), .v (.string ⟨#[]⟩), .v (.int .i64 0), .v (.int .i64 0), .v (.string ⟨#[]⟩), .v (.int .i64 0), .v (.int .i64 0), .v (.int .i64 0), .v (.int .i64 0), .v (.int .i64 0), .v (.int .i64 0), .v (.int .i64 0), .v (.int .i64 0)]:=⟨[.string ⟨#[]⟩, .string ⟨#[]⟩, .int .i64 0, .int .i64 0, .string ⟨#[]⟩, .int .i64 0, .int .i64 0, .int .i64 0, .int .i64 0, .int .i64 0, .int .i64 0, .int .i64 0, .int .i64 0],by kernel_rfl,rfl,rfl⟩
instance :Plc prog 121 [(0,1),(1,1),(2,2),(4,1),(5,2),(7,1),(8,1),(9,1),(10,1),(11,1),(12,1)]:=EN
instance :Fld prog 121 2 2 2:=B4
instance :Fld prog 121 3 4 1:=B4
instance :Fld prog 121 4 5 2:=B4
instance :Fld prog 121 5 7 1:=B4
instance :Fld prog 121 6 8 1:=B4
instance :Fld prog 121 7 9 1:=B4
instance :Fld prog 121 8 10 1:=B4
instance :Fld prog 121 9 11 1:=B4
instance :Fld prog 121 10 12 1:=B4
instance :Typ prog 125 1 false:=CV
instance :Typ prog 146 1 false:=CV
instance :Elm prog 146 151 8 88:=⟨by kernel_rfl,by decide⟩
instance :Typ prog 148 2 true:=CV
instance :Zer prog 148 [.v (.int .i64 0), .v (.slice none 0 0)]:=⟨[.int .i64 0, .slice none 0 0],by kernel_rfl,rfl,rfl⟩
instance :Plc prog 148 [(0,1),(1,1)]:=EN
instance :Fld prog 148 0 0 1:=B4
instance :Fld prog 148 1 1 1:=B4
instance :Typ prog 149 1 false:=CV
instance :Elm prog 149 234 2 24:=⟨by kernel_rfl,by decide⟩
instance :Typ prog 151 8 true:=CV
instance :Zer prog 151 [.v (.int .i64 0), .v (.int .i64 0), .v (.int .i64 0), .v (.int .i64 0), .v (.int .i64 0), .v (.int .i64 0), .v (.string ⟨#[]⟩), .v (.slice none 0 0)]:=⟨[.int .i64 0, .int .i64 0, .int .i64 0, .int .i64 0, .int .i64 0, .int .i64 0, .string ⟨#[]⟩, .slice none 0 0],by kernel_rfl,rfl,rfl⟩
instance :Plc prog 151 [(0,1),(1,1),(2,1),(3,1),(4,1),(5,1),(6,1),(7,1)]:=EN
instance :Fld prog 151 0 0 1:=B4
instance :Fld prog 151 1 1 1:=B4
instance :Fld prog 151 2 2 1:=B4
instance :Fld prog 151 3 3 1:=B4
instance :Fld prog 151 4 4 1:=B4
instance :Fld prog 151 5 5 1:=B4
instance :Fld prog 151 6 6 1:=B4
instance :Fld prog 151 7 7 1:=B4
instance :Typ prog 157 1 false:=CV
instance :Elm prog 157 200 8 72:=⟨by kernel_rfl,by decide⟩
instance :Zer prog 159 [.v (.slice none 0 0), .v (.slice none 0 0), .v (.int .i64 0), .v (.int .i64 0), .v (.slice none 0 0), .v (.int .i64 0), .v (.int .i64 0), .v (.int .i64 0), .v (.int .i64 0), .v (.int .i64 0), .v (.int .i64 0), .v (.int .i64 0), .v (.int .i64 0), .v (.int .i64 0), .v (.int .i64 0), .v (.string ⟨#[]⟩), .v (.string ⟨#[]⟩), .v (.slice none 0 0), .v (.bool false), .v (.int .i64 0), .v (.int .i64 0), .v (.int .i64 0), .v (.int .i64 0), .v (.int .i64 0), .v (.slice none 0 0), .v (.slice none 0 0), .v (.slice none 0 0), .v (.int .i64 0), .v (.int .i64 0), .v (.int .i64 0), .v (.slice none 0 0), .v (.slice none 0 0)]:=⟨[.slice none 0 0, .slice none 0 0, .int .i64 0, .int .i64 0, .slice none 0 0, .int .i64 0, .int .i64 0, .int .i64 0, .int .i64 0, .int .i64 0, .int .i64 0, .int .i64 0, .int .i64 0, .int .i64 0, .int .i64 0, .string ⟨#[]⟩, .string ⟨#[]⟩, .slice none 0 0, .bool false, .int .i64 0, .int .i64 0, .int .i64 0, .int .i64 0, .int .i64 0, .slice none 0 0, .slice none 0 0, .slice none 0 0, .int .i64 0, .int .i64 0, .int .i64 0, .slice none 0 0, .slice none 0 0],by kernel_rfl,rfl,rfl⟩
instance :Plc prog 159 [(0,5),(5,14),(19,7),(26,1),(27,5)]:=EN
instance :Fld prog 159 0 0 5:=B4
instance :Fld prog 159 1 5 14:=B4
instance :Fld prog 159 2 19 7:=B4
instance :Fld prog 159 3 26 1:=B4
instance :Fld prog 159 4 27 5:=B4
instance :Zer prog 176 [.v (.int .i64 0), .v (.int .i64 0), .v (.int .i64 0), .v (.int .i64 0)]:=⟨[.int .i64 0, .int .i64 0, .int .i64 0, .int .i64 0],by kernel_rfl,rfl,rfl⟩
instance :Plc prog 176 [(0,2),(2,2)]:=EN
instance :Typ prog 185 3 true:=CV
instance :Zer prog 185 [.v (.int .i64 0), .v (.int .i64 0), .v (.int .i64 0)]:=⟨[.int .i64 0, .int .i64 0, .int .i64 0],by kernel_rfl,rfl,rfl⟩
instance :Plc prog 185 [(0,1),(1,2)]:=EN
instance :Fld prog 185 0 0 1:=B4
instance :Fld prog 185 1 1 2:=B4
instance :Typ prog 196 5 true:=CV
instance :Zer prog 196 [.v (.string ⟨#[]⟩), .v (.int .i64 0), .v (.int .i64 0), .v (.int .i64 0), .v (.int .i64 0)]:=⟨[.string ⟨#[]⟩, .int .i64 0, .int .i64 0, .int .i64 0, .int .i64 0],by kernel_rfl,rfl,rfl⟩
instance :Plc prog 196 [(0,1),(1,1),(2,1),(3,1),(4,1)]:=EN
instance :Fld prog 196 0 0 1:=B4
instance :Fld prog 196 1 1 1:=B4
instance :Fld prog 196 2 2 1:=B4
instance :Fld prog 196 3 3 1:=B4
instance :Fld prog 196 4 4 1:=B4
instance :Typ prog 200 8 true:=CV
instance :Zer prog 200 [.v (.int .i64 0), .v (.int .i64 0), .v (.string ⟨#[]⟩), .v (.int .i64 0), .v (.int .i64 0), .v (.bool false), .v (.bool false), .v (.string ⟨#[]⟩)]:=⟨[.int .i64 0, .int .i64 0, .string ⟨#[]⟩, .int .i64 0, .int .i64 0, .bool false, .bool false, .string ⟨#[]⟩],by kernel_rfl,rfl,rfl⟩
instance :Plc prog 200 [(0,2),(2,1),(3,2),(5,1),(6,1),(7,1)]:=EN
instance :Fld prog 200 0 0 2:=B4
instance :Fld prog 200 1 2 1:=B4
instance :Fld prog 200 2 3 2:=B4
instance :Fld prog 200 3 5 1:=B4
instance :Fld prog 200 4 6 1:=B4
instance :Fld prog 200 5 7 1:=B4
instance :Elm prog 216 26 2 16:=⟨by kernel_rfl,by decide⟩
instance :Typ prog 234 2 true:=CV
instance :Zer prog 234 [.v (.string ⟨#[]⟩), .v (.int .i64 0)]:=⟨[.string ⟨#[]⟩, .int .i64 0],by kernel_rfl,rfl,rfl⟩
instance :Plc prog 234 [(0,1),(1,1)]:=EN
instance :Fld prog 234 0 0 1:=B4
instance :Fld prog 234 1 1 1:=B4
instance :Elm prog 236 196 5 48:=⟨by kernel_rfl,by decide⟩
instance :Zer prog 248 [.v (.int .i64 0), .v (.int .i64 0), .v (.string ⟨#[]⟩), .v (.int .i64 0), .v (.int .i64 0), .v (.int .i64 0), .v (.int .i64 0)]:=⟨[.int .i64 0, .int .i64 0, .string ⟨#[]⟩, .int .i64 0, .int .i64 0, .int .i64 0, .int .i64 0],by kernel_rfl,rfl,rfl⟩
instance :Plc prog 248 [(0,2),(2,1),(3,2),(5,2)]:=EN
instance :Fld prog 248 3 5 2:=B4
instance :Elm prog 274 125 1 8:=⟨by kernel_rfl,by decide⟩
instance :Typ prog 291 4 true:=CV
instance :Zer prog 291 [.v (.int .i64 0), .v (.int .i64 0), .v (.int .i64 0), .v (.int .i64 0)]:=⟨[.int .i64 0, .int .i64 0, .int .i64 0, .int .i64 0],by kernel_rfl,rfl,rfl⟩
instance :Plc prog 291 [(0,1),(1,2),(3,1)]:=EN
instance :Fld prog 291 0 0 1:=B4
instance :Fld prog 291 1 1 2:=B4
theorem AK{P:Program}{f:Nat}(h:QX P f=true:=by kernel_rfl):Fun P f:=⟨h⟩
instance :Fun prog 12:=AK
instance :Fun prog 13:=AK
instance :Fun prog 14:=AK
instance :Fun prog 16:=AK
instance :Fun prog 18:=AK
instance :Fun prog 20:=AK
instance :Fun prog 21:=AK
instance :Fun prog 22:=AK
instance :Fun prog 23:=AK
instance :Fun prog 24:=AK
instance :Fun prog 25:=AK
instance :Fun prog 26:=AK
instance :Fun prog 27:=AK
instance :Fun prog 28:=AK
instance :Fun prog 29:=AK
instance :Fun prog 30:=AK
instance :Fun prog 31:=AK
instance :Fun prog 32:=AK
instance :Fun prog 33:=AK
instance :Fun prog 34:=AK
instance :Fun prog 40:=AK
instance :Fun prog 41:=AK
instance :Fun prog 47:=AK
instance :Fun prog 49:=AK
instance :Fun prog 50:=AK
instance :Fun prog 51:=AK
instance :Fun prog 56:=AK
instance :Fun prog 57:=AK
instance :Fun prog 60:=AK
instance :Fun prog 61:=AK
instance :Fun prog 62:=AK
instance :Fun prog 63:=AK
instance :Fun prog 64:=AK
instance :Fun prog 65:=AK
instance :Fun prog 67:=AK
instance :Fun prog 68:=AK
instance :Fun prog 69:=AK
instance :Fun prog 70:=AK
instance :Fun prog 71:=AK
instance :Fun prog 72:=AK
instance :Fun prog 73:=AK
instance :Fun prog 74:=AK
instance :Fun prog 76:=AK
instance :Fun prog 78:=AK
instance :Fun prog 81:=AK
instance :Fun prog 82:=AK
instance :Fun prog 83:=AK
instance :Fun prog 84:=AK
instance :Fun prog 85:=AK
instance :Fun prog 86:=AK
instance :Fun prog 87:=AK
instance :Fun prog 88:=AK
instance :Fun prog 89:=AK
instance :Fun prog 90:=AK
instance :Fun prog 93:=AK
instance :Fun prog 94:=AK
instance :Fun prog 95:=AK
instance :Fun prog 96:=AK
instance :Fun prog 97:=AK
instance :Fun prog 98:=AK
instance :Fun prog 99:=AK
instance :Fun prog 100:=AK
instance :Fun prog 102:=AK
instance :Fun prog 104:=AK
instance :Fun prog 105:=AK
instance :Fun prog 107:=AK
instance :Fun prog 109:=AK
instance :Fun prog 110:=AK
instance :Fun prog 111:=AK
instance :Fun prog 112:=AK
instance :Fun prog 113:=AK
instance :Fun prog 114:=AK
instance :Fun prog 115:=AK
instance :Fun prog 116:=AK
instance :Fun prog 118:=AK
instance :Fun prog 119:=AK
instance :Fun prog 120:=AK
instance :Fun prog 121:=AK
instance :Fun prog 123:=AK
instance :Fun prog 124:=AK
instance :Fun prog 125:=AK
instance :Fun prog 126:=AK
instance :Fun prog 127:=AK
instance :Fun prog 129:=AK
instance :Fun prog 130:=AK
instance :Fun prog 134:=AK
instance :Fun prog 136:=AK
instance :Fun prog 137:=AK
instance :Fun prog 138:=AK
instance :Fun prog 139:=AK
instance :Fun prog 140:=AK
instance :Fun prog 141:=AK
instance :Fun prog 142:=AK
instance :Fun prog 143:=AK
instance :Fun prog 144:=AK
instance :Fun prog 145:=AK
instance :Fun prog 146:=AK
instance :Fun prog 147:=AK
instance :Fun prog 148:=AK
instance :Fun prog 149:=AK
instance :Fun prog 150:=AK
instance :Fun prog 151:=AK
instance :Fun prog 152:=AK
instance :Fun prog 154:=AK
instance :Fun prog 155:=AK
instance :Fun prog 156:=AK
instance :Fun prog 157:=AK
instance :Fun prog 158:=AK
instance :Fun prog 159:=AK
instance :Fun prog 160:=AK
instance :Fun prog 161:=AK
instance :Fun prog 162:=AK
instance :Fun prog 163:=AK
instance :Fun prog 164:=AK
instance :Fun prog 165:=AK
instance :Fun prog 166:=AK
instance :Fun prog 167:=AK
instance :Fun prog 168:=AK
instance :Fun prog 169:=AK
instance :Fun prog 171:=AK
instance :Fun prog 172:=AK
instance :Fun prog 173:=AK
instance :Fun prog 174:=AK
instance :Fun prog 175:=AK
instance :Fun prog 176:=AK
instance :Fun prog 177:=AK
instance :Fun prog 179:=AK
instance :Fun prog 180:=AK
instance :Fun prog 181:=AK
instance :Fun prog 182:=AK
instance :Fun prog 183:=AK
instance :Fun prog 185:=AK
instance :Fun prog 189:=AK
instance :Fun prog 190:=AK
instance :Fun prog 191:=AK
instance :Fun prog 192:=AK
instance :Fun prog 193:=AK
instance :Fun prog 194:=AK
instance :Fun prog 195:=AK
instance :Fun prog 196:=AK
instance :Fun prog 197:=AK
instance :Fun prog 198:=AK
instance :Fun prog 199:=AK
instance :Fun prog 200:=AK
instance :Fun prog 201:=AK
instance :Fun prog 202:=AK
instance :Fun prog 203:=AK
instance :Fun prog 204:=AK
instance :Fun prog 205:=AK
instance :Fun prog 206:=AK
instance :Fun prog 207:=AK
instance :Fun prog 208:=AK
instance :Fun prog 209:=AK
instance :Fun prog 210:=AK
instance :Fun prog 211:=AK
instance :Fun prog 212:=AK
instance :Fun prog 213:=AK
instance :Fun prog 214:=AK
instance :Fun prog 215:=AK
instance :Fun prog 216:=AK
instance :Fun prog 217:=AK
instance :Fun prog 218:=AK
instance :Fun prog 219:=AK
instance :Fun prog 220:=AK
instance :Fun prog 221:=AK
instance :Fun prog 222:=AK
instance :Fun prog 223:=AK
instance :Fun prog 224:=AK
instance :Fun prog 225:=AK
instance :Fun prog 226:=AK
instance :Fun prog 227:=AK
instance :Fun prog 230:=AK
instance :Fun prog 231:=AK
instance :Fun prog 232:=AK
instance :Fun prog 233:=AK
instance :Fun prog 234:=AK
instance :Fun prog 235:=AK
instance :Fun prog 236:=AK
instance :Fun prog 237:=AK
instance :Fun prog 248:=AK
instance :Fun prog 249:=AK
instance :Fun prog 250:=AK
instance :Fun prog 251:=AK
instance :Fun prog 252:=AK
instance :Fun prog 253:=AK
instance :Fun prog 254:=AK
instance :Fun prog 255:=AK
instance :Fun prog 256:=AK
instance :Fun prog 257:=AK
instance :Fun prog 258:=AK
end Go.Proofs.YtbgnigjfkbmceaaGreatDoor
namespace Go.Proofs.YtbgnigjfkbmceaaGreatDoor
abbrev AF:=ByteArray
abbrev AD:=Int×Int
abbrev BS:=AF×Int
abbrev E6:=Int×AD
abbrev Lx:=AD×AF×AD×AD
structure Nod where
 ino:Int
 kind:Int
 mode:Int
 uid:Int
 gid:Int
 parent:Int
 target:AF
 entries:List BS
structure Dvc where
 next:Int
 nodes:List Nod
abbrev AU:=List Dvc
structure Spc where
 files:AU
 mounts:List E6
def Nod.zero:Nod:=⟨0,0,0,0,0,0,⟨#[]⟩,[]⟩
def NK{α:Type}(p:α→Bool)(l:List α):Int:=
 match l.findIdx? p with
 |some i=>(i:Int)
 |none=> -1
def G0{α:Type}(l:List α)(i:Int):Option α:=if i<0 then none else l[i.toNat]?
theorem NL{α:Type}(l:List α)(k:Nat):G0 l (k:Int)=l[k]?:=by
 simp[G0,show¬((k:Int)<0) by omega]
theorem Qy{α:Type}{l:List α}{i:Int}(h:i<0∨(l.length:Int)≤i):G0 l i=none:=by
 unfold G0;split
 ·rfl
 rw[List.getElem?_eq_none];omega
theorem cP{α:Type}{l:List α}{i:Int}{x:α}(h:G0 l i=some x):0≤i∧i<l.length∧l[i.toNat]?=some x:=by
 unfold G0 at h;split at h
 ·cases h
 have:=(Af.1 h).1;exact⟨by omega,by omega,h⟩
theorem Vl{α:Type}{p:α→Bool}{l:List α}{m:Nat}{x:α}(hx:l[m]?=some x)(hp:p x=true)(h:∀j y,j<m→l[j]?=some y→p y=false):l.findIdx? p=some m:=by
 have hl:m<l.length:=(Af.1 hx).1;rw[List.findIdx?_eq_some_iff_getElem];refine⟨hl,by rw[(Af.1 hx).2];exact hp,fun j hj=>?_⟩;have:=h j l[j] hj (B6 _);simp[this]
theorem Vm{α:Type}{p:α→Bool}{l:List α}{m:Nat}{x:α}(hx:l[m]?=some x)(hp:p x=true)(h:∀j y,j<m→l[j]?=some y→p y=false):NK p l=m:=by
 unfold NK;rw[Vl hx hp h]
theorem cQ{α:Type}{p:α→Bool}{l:List α}(h:∀j y,j<l.length→l[j]?=some y→p y=false):NK p l= -1:=by
 unfold NK;rw[List.findIdx?_eq_none_iff.2];intro x hx;obtain⟨j,hj,rfl⟩:=List.mem_iff_getElem.1 hx;exact h j _ hj (B6 hj)
theorem GN{α:Type}{P:α→Prop}{l:List α}{m:Nat}{x:α}(hx:l[m]?=some x)(h:∀j y,j<m→l[j]?=some y→P y)(hp:P x):∀j y,j<m+1→l[j]?=some y→P y:=by
 intro j y hj hy;by_cases e:j=m
 ·subst e;rw[hx]at hy;cases hy;exact hp
 exact h j y (by omega) hy
def Hr(f:AU)(at_:AD):Int:=
 match G0 f at_.1 with
 |none=> -1
 |some d=>NK (fun n:Nod=>n.ino==at_.2) d.nodes
def CQ(f:AU)(at_:AD):Option Nod:=
 match G0 f at_.1 with
 |none=>none
 |some d=>d.nodes.find? (fun n:Nod=>n.ino==at_.2)
theorem Vn{α:Type}{p:α→Bool}{l:List α}:(l.findIdx? p).bind (fun i=>l[i]?)=l.find? p:=by
 cases h:l.findIdx? p with
 |none=>
   rw[List.findIdx?_eq_none_iff]at h;simp only[Option.bind_none];exact(List.find?_eq_none.2 (fun x hx=>by simp[h x hx])).symm
 |some i=>
   obtain⟨hi,hp,hf⟩:=List.findIdx?_eq_some_iff_getElem.1 h;simp only[Option.bind_some,B6 hi];exact(List.find?_eq_some_iff_getElem.2 ⟨hp,i,hi,rfl,fun j hj=>by simpa using hf j hj⟩).symm
theorem Ly(f:AU)(at_:AD):(Hr f at_= -1∧CQ f at_=none)∨
    ∃(k i:Nat) (d:Dvc) (n:Nod),at_.1=k∧f[k]?=some d∧d.nodes[i]?=some n∧n.ino=at_.2∧Hr f at_=i∧CQ f at_=some n:=by
 unfold Hr CQ
 cases h:G0 f at_.1 with
 |none=>exact .inl ⟨rfl,rfl⟩
 |some d=>
   obtain⟨h0,h1,h2⟩:=cP h;simp only[←Vn];unfold NK
   cases hi:d.nodes.findIdx? (fun n:Nod=>n.ino==at_.2)with
   |none=>exact .inl ⟨rfl,rfl⟩
   |some i=>
     obtain⟨hl,hp,_⟩:=List.findIdx?_eq_some_iff_getElem.1 hi;exact .inr ⟨at_.1.toNat,i,d,d.nodes[i],by omega,h2,B6 hl,by simpa using hp,rfl,by simp⟩
theorem Qz(a b:AF):(a.toList==b.toList)=decide (a=b):=by
 rw[ByteArray.toList_eq,ByteArray.toList_eq,Bool.eq_iff_iff];simp only[beq_iff_eq,decide_eq_true_eq];constructor
 ·intro h
  cases a with
  |mk a=>
    cases b with
    |mk b=>exact congrArg ByteArray.mk (Array.toList_inj.1 h)
 intro h;rw[h]
def Lz(c:UInt8):Bool:= !((c.toNat:Int)==0)&& !((c.toNat:Int)==47)
def Hs(s:AF):Bool:=
 if s.size<1∨12<s.size then false else if(s.toList==[46])=true then false else if(s.toList==[46,46])=true then false else s.data.toList.all Lz
def O3(s:AF):Bool:=s.data.toList.all (fun c=> !((c.toNat:Int)==0))&&decide (1≤s.size)&&decide (s.size≤128)
theorem Vo{p:UInt8→Bool}{s:AF}(h:∀j (hj:j<s.size),p s[j]=true):s.data.toList.all p=true:=by
 rw[List.all_eq_true];intro c hc;obtain⟨j,hj,rfl⟩:=List.mem_iff_getElem.1 hc;exact h j (by simpa using hj)
theorem Ss{p:UInt8→Bool}{s:AF}{j:Nat}(hj:j<s.size)(h:p s[j]=false):s.data.toList.all p=false:=by
 rw[List.all_eq_false];refine⟨s[j],?_,by simp[h]⟩;have:s[j]=s.data.toList[j]'(by simpa using hj):=rfl;rw[this];exact List.getElem_mem _
theorem Vp{p:UInt8→Bool}{s:AF}{m:Nat}(hm:m<s.size)(h:∀j (hj:j<s.size),j<m→p s[j]=true)(hp:p s[m]=true):∀j (hj:j<s.size),j<m+1→p s[j]=true:=by
 intro j hj hlt;by_cases e:j=m
 ·subst e;exact hp
 exact h j hj (by omega)
def Ac(f:AU)(at_:AD):Bool:=
 match CQ f at_ with
 |none=>false
 |some n=>n.kind==2
def Cf(f:AU)(dir:AD)(name:AF):Int:=
 match CQ f dir with
 |none=>2
 |some n=>if n.kind=2 then(if Hs name then 0 else 22)else 20
def M0(f:AU)(dir:AD):Bool:=
 match CQ f dir with
 |none=>false
 |some n=>decide (12≤n.entries.length)
def Mh(f:AU)(dir:AD):Bool:=
 match CQ f dir with
 |none=>true
 |some n=>decide (n.entries.length=0)
def AM(f:AU)(dir:AD)(name:AF):AD×Int:=
 match CQ f dir with
 |none=>((0,0),2)
 |some n=>if n.kind=2 then
     match n.entries.find? (fun e:BS=>decide (e.1=name))with
     |none=>((0,0),2)
     |some e=>((dir.1,e.2),0)
   else((0,0),20)
def Ht(n:Nod):Bool:=
 if n.kind<1∨3<n.kind∨n.mode<0∨511<n.mode∨n.uid<0∨4294967295<n.uid∨n.gid<0∨4294967295<n.gid then false
 else if n.kind=3 then O3 n.target else n.target.toList.isEmpty
end Go.Proofs.YtbgnigjfkbmceaaGreatDoor
namespace Go.Proofs.YtbgnigjfkbmceaaGreatDoor
def HU(a b:AF):Bool:=Op.bytesLess a.toList b.toList
def Jg(name:AF)(ino:Int):Bool→List BS→List BS
 |done,[]=>if done then[]else[(name,ino)]
 |done,e::r=>
   (if !done&& !HU e.1 name then[(name,ino)]else[])++((if e.1=name then[]else[e])++Jg name ino (done|| !HU e.1 name) r)
def DC(es:List BS)(name:AF)(ino:Int):List BS:=Jg name ino (ino==0) es
def DL(ino:Int)(es:List BS):Nat:=es.countP fun e:BS=>e.2==ino
def Bm(ino:Int)(ns:List Nod):Nat:=DL ino (ns.flatMap fun n=>n.entries)
def Kc(f:AU)(at_:AD):Nat:=
 match CQ f at_,G0 f at_.1 with
 |some _,some d=>Bm at_.2 d.nodes
 |_,_=>0
theorem Su{ino:Int}{es:List BS}{k:Nat}{e:BS}(h:es[k]?=some e):DL ino (es.take (k+1))=DL ino (es.take k)+(if e.2==ino then 1 else 0):=by
 unfold DL;rw[List.take_add_one,h,List.countP_append];simp[List.countP_cons]
theorem cR(ino:Int)(es:List BS):DL ino es≤es.length:=List.countP_le_length
theorem cS{ino:Int}{ns:List Nod}{m:Nat}{n:Nod}(h:ns[m]?=some n):Bm ino (ns.take (m+1))=Bm ino (ns.take m)+DL ino n.entries:=by
 unfold Bm DL;rw[List.take_add_one,h,List.flatMap_append,List.countP_append];simp
def DM(ino:Int)(ns:List Nod):List Nod:=ns.filter fun n=>n.ino != ino
def R3:Nod:=⟨1,2,493,0,0,1,⟨#[]⟩,[]⟩
def O4:Dvc:=⟨2,[R3]⟩
def GO(n:Int):AU×Int:=if n<1∨3<n then([],50)else(List.replicate n.toNat O4,0)
abbrev FH:=AU×List Lx×Int
def GP(n:Nod)(next dirIno:Int):Nod:=⟨next,n.kind,n.mode,n.uid,n.gid,if n.kind=2 then dirIno else 0,n.target,[]⟩
end Go.Proofs.YtbgnigjfkbmceaaGreatDoor
namespace Go.Proofs.YtbgnigjfkbmceaaGreatDoor
open Go.RowKit
theorem Br{α:Type}(enc:α→List AV){l:List α}{k:Nat}(h:(k:Int)<((l.map enc).length:Int)):k<l.length∧∃x,l[k]?=some x∧(l.map enc)[k]?=some (enc x)∧(l.take (k+1)).map enc=(l.take k).map enc++[enc x]:=by
 have hk:k<l.length:=by simpa using h
 refine⟨hk,l[k],B6 hk,by simp[hk],?_⟩;rw[List.take_succ_eq_append_getElem hk,List.map_append];rfl
theorem C6{α:Type}(enc:α→List AV){l:List α}{k:Nat}(hk:k≤l.length)(h:¬(k:Int)<((l.map enc).length:Int)):k=l.length:=by
 simp at h;omega
theorem vb{a b:Bool}(h:a=b):AV.v (.bool a)=AV.v (.bool b):=by rw[h]
theorem vi{k:IntKind}{a b:Int}(h:a=b):AV.v (.int k a)=AV.v (.int k b):=by rw[h]
def AB(x:AD):List AV:=[.v (.int .i64 x.1), .v (.int .i64 x.2)]
def Dx(e:BS):List AV:=[.v (.string e.1), .v (.int .i64 e.2)]
def AZ(n:Nod):List AV:=[.v (.int .i64 n.ino), .v (.int .i64 n.kind), .v (.int .i64 n.mode), .v (.int .i64 n.uid), .v (.int .i64 n.gid), .v (.int .i64 n.parent), .v (.string n.target), .sl 2 (n.entries.map Dx) none]
def Cg(d:Dvc):List AV:=[.v (.int .i64 d.next), .sl 8 (d.nodes.map AZ) none]
def Au(f:AU):List AV:=[.sl 2 (f.map Cg) none]
structure FlsB(f:AU):Prop where
 few:f.length≤1000
 nodes:∀d∈f,d.nodes.length≤1000
 ents:∀d∈f,∀n∈d.nodes,n.entries.length≤1000
theorem Sv{f:AU}{a:AD}{k:Nat}{d:Dvc}(hk:a.1=(k:Int))(hd:f[k]?=some d):Hr f a=NK (fun n:Nod=>n.ino==a.2) d.nodes:=by
 unfold Hr;rw[hk,NL,hd]
def Ag(f:AU)(a:AD):Nod:=(CQ f a).getD Nod.zero
def Dy(f:AU)(a:AD):Bool:=(CQ f a).isSome
theorem M1(f:AU)(a:AD):Ac f a=(Dy f a&&decide ((Ag f a).kind=2)):=by
 unfold Ac Dy Ag;cases CQ f a<;>simp[SM]
theorem Sw{f:AU}(hf:FlsB f)(a:AD):(Ag f a).entries.length≤1000:=by
 rcases Ly f a with⟨-,h⟩|⟨k,i,d,n, -,h1,h2, -, -,h⟩
 ·simp[Ag,h,Nod.zero]
 simp only[Ag,h,Option.getD_some];exact hf.ents d (Am h1) n (Am h2)
section
theorem Mi(f:AU)(a:AD)(hf:FlsB f):AFn prog 179 [.agg (Au f), .agg (AB a)] (fun r=>r= .v (.int .i64 (Hr f a))):=by
 refine enter Tryz.func179 rfl rfl rfl rfl rfl 0 rfl ?_;refine FC (h:=Fh (h:=DK (h:=?_)));refine AJ false rfl rfl (fun hb1 hc1=>?_) (fun hb1 hc1=>?_)
 ·refine Ja (h:=Fl (h:=?_));refine A6 ?_;exact vi (by unfold Hr;rw[Qy (.inl hc1)])
 refine Eg (h:=n_ (h:=DR (h:=CO (h:=?_))));refine A4 rfl (fun hb2 hc2=>?_) (fun hb2 hc2=>?_)
 ·refine BK (h:=?_);refine A6 ?_;exact vi (by unfold Hr;rw[Qy (.inr (by rw[List.length_map]at hc2;exact hc2))])
 obtain⟨k,hk⟩:=Int.eq_ofNat_of_zero_le (show 0≤a.1 by omega);rw[hk]at hc2;obtain⟨-,d,hd,hrow, -⟩:=Br Cg (l:=f) (k:=k) (by omega);have hdn:=hf.nodes d (Am hd);refine FY (h:=AO (h:=?_));refine A3 rfl (DE (n:=k) rfl rfl hk hrow ?_);refine AO (h:=JK (h:=?_));refine BM (fun m s=>∃j:Nat,j≤d.nodes.length∧m=d.nodes.length - j∧(∀i y,i<j→d.nodes[i]?=some y→(y.ino==a.2)=false)∧s=⟨look [(3, .bp 1 0),(5, .sl 8 (d.nodes.map AZ) none),(6, .v (.int .i64 (j:Int)))],⟨[Au f,AB a],[]⟩⟩) (d.nodes.length) ((wk 2 0)) (⟨0,by omega,rfl,fun i y hi=>by omega,rfl⟩) ?_;rintro m s ⟨j,hj,rfl,ha,rfl⟩;refine De (h:=Fi (h:=?_));refine A4 rfl (fun hb3 hc3=>?_) (fun hb3 hc3=>?_)
 ·obtain⟨hlt,n,hy,hrow2, -⟩:=Br AZ hc3;refine AG (q_ (BF (q_ (Ct 8 (h:=AE 0 (h:=AE 1 (h:=CL 2 (h:=AA 3 (h:=A9 4 (h:=AA 5 (h:=A9 6 (h:=JF 7 (h:=z_ (h:=t_ (?_)))))))))))))));refine A4 rfl (fun hb4 hc4=>?_) (fun hb4 hc4=>?_)
  ·refine Aa (h:=Ax (h:=Dk (h:=?_)));refine A6 ?_;exact vi (by rw[Sv hk hd];exact(Vm hy (by simpa using hc4) ha).symm)
  refine Cm (h:=?_);refine⟨_,_,?_,⟨j+1,by omega,rfl,GN hy ha (by simpa using hc4),rfl⟩,(wk 2 0)⟩;omega
 have e:=C6 AZ hj hc3;subst e;refine Fk (h:=?_);refine A6 ?_;exact vi (by rw[Sv hk hd];exact(cQ (fun i y hi hy=>ha i y hi hy)).symm)
theorem FJ(f:AU)(a:AD)(hf:FlsB f):AFn prog 123 [.agg (Au f), .agg (AB a)] (fun r=>r= .tup [.agg (AZ (Ag f a)), .v (.bool (Dy f a))]):=by
 refine enter Tryz.func123 rfl rfl rfl rfl rfl 0 rfl ?_;refine FU (h:=BO (h:=CA (h:=?_)));refine A3 rfl (A8 (Mi f a hf) ?_);rintro r rfl;refine Bo (h:=Cv (h:=?_));refine A4 rfl (fun hb1 hc1=>?_) (fun hb1 hc1=>?_)
 ·have e:CQ f a=none:=by
   rcases Ly f a with h|⟨k,i,d,n, -, -, -, -,h, -⟩
   ·exact h.2
   exfalso;omega
  refine Bx (h:=?_);refine AX (r:= .tup [.agg (AZ (Ag f a)), .v (.bool (Dy f a))]) none (h5:=?_) (h6:=⟨rfl,rfl,rfl⟩);rw[show Ag f a=Nod.zero by simp[Ag,e],show Dy f a=false by simp[Dy,e]];exact(by repeat (first|exact A7 _|exact LeA.nil _|exact LeL.refl _|refine LeA.agg ?_|refine LeA.tup ?_|exact LeL.nil|refine LeL.cons ?_ ?_|exact LeA.any _))
 obtain⟨k,i,d,n,g1,g2,g3,g4,g5,g6⟩:=(Ly f a).resolve_left (fun h=>by omega);rw[g5];have hr1:(f.map Cg)[k]?=some (Cg d):=by rw[List.getElem?_map,g2];rfl
 have hr2:(d.nodes.map AZ)[i]?=some (AZ n):=by rw[List.getElem?_map,g3];rfl
 have hen:=hf.ents d (Am g2) n (Am g3);refine FY (h:=AO (h:=?_));refine A3 rfl (DE (n:=k) rfl rfl g1 hr1 ?_);refine AO (h:=m_ (h:=?_));refine A3 rfl (DE (n:=i) rfl rfl rfl hr2 ?_);refine Jb (h:=Ay (h:=?_))
 first|refine A3 rfl (EF rfl rfl rfl (by simp;omega) (by repeat constructor) ?_)|refine A3 rfl (JC rfl rfl (by simp;omega) (by repeat constructor) ?_)
 refine DF (h:=Di (h:=Az (h:=?_)));refine A6 ?_;rw[show Ag f a=n by simp[Ag,g6],show Dy f a=true by simp[Dy,g6]];rfl
theorem L3(f:AU)(a:AD)(hf:FlsB f):AFn prog 185 [.agg (Au f), .agg (AB a)] (fun r=>r= .v (.bool (Ac f a))):=by
 refine enter Tryz.func185 rfl rfl rfl rfl rfl 0 rfl ?_;refine FC (h:=CA (h:=?_));refine A3 rfl (A8 (FJ f a hf) ?_);rintro r rfl;refine Ee (h:=Bt (h:=m_ (h:=?_)));refine AJ true rfl rfl (fun hb1 hc1=>?_) (fun hb1 hc1=>?_)
 ·refine CN (h:=Gf (h:=?_));refine A6 ?_;exact vb (by rw[M1];simp[*])
 refine Cu (h:=Az (h:=?_));refine A6 ?_;exact vb (by rw[M1];simp[*])
end
end Go.Proofs.YtbgnigjfkbmceaaGreatDoor
namespace Go.Proofs.YtbgnigjfkbmceaaGreatDoor
structure Tst where
 fld:Int
 op:Int
 num:Int
 text:AF
 other:Int
structure Rul where
 list:Int
 action:Int
 calls:Int
 tests:List Tst
 watch:Int
 path:AF
 perm:Int
 key:AF
structure Itm where
 given:AF
 path:AF
 dir:AD
 name:AF
 file:AD
 role:Int
 kind:Int
 mode:Int
 uid:Int
 gid:Int
 perm:Int
structure Ctx where
 phase:Int
 pid:Int
 ppid:Int
 uid:Int
 euid:Int
 gid:Int
 egid:Int
 auid:Int
 ses:Int
 cwd:AD
 comm:AF
 exe:AF
 audited:Bool
 number:Int
 a0:Int
 a1:Int
 a2:Int
 a3:Int
 ext:Int
 items:List Itm
 typ:Int
def Itm.zero:Itm:=⟨⟨#[]⟩,⟨#[]⟩,(0,0),⟨#[]⟩,(0,0),0,0,0,0,0,0⟩
def Cx(f:Int):Bool:=decide (1≤f∧f≤8∨f=13∨f=14)
def Es(list f:Int):Bool:=
 if list=1∨list=4 then Cx f
 else if list=2 then decide (1≤f∧f≤14)
 else if list=3 then decide (1≤f∧f≤21)
 else if list=5 then decide (1≤f∧f≤8∨f=13∨f=14∨f=22)
 else false
def Ej(f:Int):Bool:=decide (f=13∨f=14)
def Et(f:Int):Bool:=decide (f=3∨f=4∨f=5∨f=6∨f=7∨f=19∨f=20)
def G2(f:Int):Bool:=decide (17≤f∧f≤21)
def BW(t:Tst)(list:Int):Int:=
 if Es list t.fld=false∨t.other≠0∧(Es list t.other=false∨Et t.fld=false∨Et t.other=false)then 120
 else if t.op<1∨8<t.op∨2<t.op∧(Ej t.fld=true∨t.other≠0)then 121
 else if t.other≠0∧(t.num≠0∨t.text.size≠0)then 122
 else if Ej t.fld=true∧(t.num≠0∨t.text.size=0∨640<t.text.size)then 122
 else if Ej t.fld=false∧t.text.size≠0 then 122
 else 0
def Bz(f:Int)(c:Ctx)(y:Itm):Int:=
 if f=1 then c.pid else if f=2 then c.ppid else if f=3 then c.uid else if f=4 then c.euid else if f=5 then c.gid else if f=6 then c.egid
 else if f=7 then c.auid else if f=8 then c.ses else if f=9 then c.a0 else if f=10 then c.a1 else if f=11 then c.a2 else if f=12 then c.a3
 else if f=15 then c.ext else if f=16 then(if 0≤c.ext then 1 else 0)else if f=17 then y.file.2 else if f=18 then y.file.1
 else if f=19 then y.uid else if f=20 then y.gid else if f=21 then y.kind else c.typ
def C0(f:Int)(c:Ctx):Bool:=
 if 1≤f∧f≤12 then true else if f=22 then decide (c.typ≠0)else if 15≤f∧f≤21 then decide (c.phase=2)else false
def Eu(f:Int)(c:Ctx):Bool:=
 if 15≤f∧f≤21 then decide (c.phase=2)else decide (f≠22∨c.typ≠0)
end Go.Proofs.YtbgnigjfkbmceaaGreatDoor
namespace Go.Proofs.YtbgnigjfkbmceaaGreatDoor
open Go.RowKit
def CF(t:Tst):List AV:=[.v (.int .i64 t.fld), .v (.int .i64 t.op), .v (.int .i64 t.num), .v (.string t.text), .v (.int .i64 t.other)]
def Ab(r:Rul):List AV:=[.v (.int .i64 r.list), .v (.int .i64 r.action), .v (.int .u64 r.calls), .sl 5 (r.tests.map CF) none, .v (.int .i64 r.watch), .v (.string r.path), .v (.int .i64 r.perm), .v (.string r.key)]
def Dl(y:Itm):List AV:=[.v (.string y.given), .v (.string y.path), .v (.int .i64 y.dir.1), .v (.int .i64 y.dir.2), .v (.string y.name), .v (.int .i64 y.file.1), .v (.int .i64 y.file.2), .v (.int .i64 y.role), .v (.int .i64 y.kind), .v (.int .i64 y.mode), .v (.int .i64 y.uid), .v (.int .i64 y.gid), .v (.int .i64 y.perm)]
structure Cxs where
 os:List (List AV)
 ps:List (List AV)
 rs:List (List AV)
def C7(c:Ctx)(k:Cxs):List AV:=[.v (.int .i64 c.phase), .v (.int .i64 c.pid), .v (.int .i64 c.ppid), .v (.int .i64 c.uid), .v (.int .i64 c.euid), .v (.int .i64 c.gid), .v (.int .i64 c.egid), .v (.int .i64 c.auid), .v (.int .i64 c.ses), .v (.int .i64 c.cwd.1), .v (.int .i64 c.cwd.2), .v (.string c.comm), .v (.string c.exe), .sl 4 k.os none, .v (.bool c.audited),
 .v (.int .i64 c.number), .v (.int .i64 c.a0), .v (.int .i64 c.a1), .v (.int .i64 c.a2), .v (.int .i64 c.a3), .sl 1 k.ps none, .sl 1 k.rs none, .v (.int .i64 c.ext), .sl 13 (c.items.map Dl) none, .v (.int .i64 c.typ)]
section
theorem JR(f:Int):AFn prog 221 [.v (.int .i64 f)] (fun r=>r= .v (.bool (Ej f))):=by
 refine enter Tryz.func221 rfl rfl rfl rfl rfl 0 rfl ?_;refine EL (h:=E4 (h:=?_));refine AJ false rfl rfl (fun hb1 hc1=>?_) (fun hb1 hc1=>?_)
 ·refine BY (h:=Gf (h:=?_));refine A6 ?_;exact vb (by unfold Ej;rw[Bool.eq_iff_iff];simp;try omega)
 refine CE (h:=Bh (h:=Az (h:=?_)));refine A6 ?_;exact vb (by unfold Ej;rw[Bool.eq_iff_iff];simp;try omega)
theorem M2(f:Int):AFn prog 217 [.v (.int .i64 f)] (fun r=>r= .v (.bool (Ej f))):=by
 refine enter Tryz.func217 rfl rfl rfl rfl rfl 0 rfl ?_;refine EL (h:=E4 (h:=?_));refine AJ false rfl rfl (fun hb1 hc1=>?_) (fun hb1 hc1=>?_)
 ·refine BY (h:=Gf (h:=?_));refine A6 ?_;exact vb (by unfold Ej;rw[Bool.eq_iff_iff];simp;try omega)
 refine CE (h:=Bh (h:=Az (h:=?_)));refine A6 ?_;exact vb (by unfold Ej;rw[Bool.eq_iff_iff];simp;try omega)
theorem Vq(f:Int):AFn prog 160 [.v (.int .i64 f)] (fun r=>r= .v (.bool (G2 f))):=by
 refine enter Tryz.func160 rfl rfl rfl rfl rfl 0 rfl ?_;refine EL (h:=DR (h:=m_ (h:=?_)));refine AJ true rfl rfl (fun hb1 hc1=>?_) (fun hb1 hc1=>?_)
 ·refine m_ (h:=Fg (h:=Gf (h:=?_)));refine A6 ?_;exact vb (by unfold G2;rw[Bool.eq_iff_iff];simp;try omega)
 refine Fj (h:=Az (h:=?_));refine A6 ?_;exact vb (by unfold G2;rw[Bool.eq_iff_iff];simp;try omega)
theorem Vr(f:Int):AFn prog 164 [.v (.int .i64 f)] (fun r=>r= .v (.bool (G2 f))):=by
 refine enter Tryz.func164 rfl rfl rfl rfl rfl 0 rfl ?_;refine EL (h:=DR (h:=m_ (h:=?_)));refine AJ true rfl rfl (fun hb1 hc1=>?_) (fun hb1 hc1=>?_)
 ·refine m_ (h:=Fg (h:=Gf (h:=?_)));refine A6 ?_;exact vb (by unfold G2;rw[Bool.eq_iff_iff];simp;try omega)
 refine Fj (h:=Az (h:=?_));refine A6 ?_;exact vb (by unfold G2;rw[Bool.eq_iff_iff];simp;try omega)
theorem Vs(f:Int):AFn prog 220 [.v (.int .i64 f)] (fun r=>r= .v (.bool (Et f))):=by
 refine enter Tryz.func220 rfl rfl rfl rfl rfl 0 rfl ?_;refine w_ (Bo (h:=e_ (BF (q_ (Ak (h:=?_))))));refine A4 rfl (fun hb1 hc1=>?_) (fun hb1 hc1=>?_)
 ·refine AG (D9 (h:=?_));refine A6 ?_;exact vb (by unfold Et;rw[Bool.eq_iff_iff];simp;try omega)
 refine Ak (h:=?_);refine A4 rfl (fun hb2 hc2=>?_) (fun hb2 hc2=>?_)
 ·refine AG (D9 (h:=?_));refine A6 ?_;exact vb (by unfold Et;rw[Bool.eq_iff_iff];simp;try omega)
 refine Ak (h:=?_);refine A4 rfl (fun hb3 hc3=>?_) (fun hb3 hc3=>?_)
 ·refine AG (D9 (h:=?_));refine A6 ?_;exact vb (by unfold Et;rw[Bool.eq_iff_iff];simp;try omega)
 refine Ak (h:=?_);refine A4 rfl (fun hb4 hc4=>?_) (fun hb4 hc4=>?_)
 ·refine AG (D9 (h:=?_));refine A6 ?_;exact vb (by unfold Et;rw[Bool.eq_iff_iff];simp;try omega)
 refine Ak (h:=?_);refine A4 rfl (fun hb5 hc5=>?_) (fun hb5 hc5=>?_)
 ·refine AG (D9 (h:=?_));refine A6 ?_;exact vb (by unfold Et;rw[Bool.eq_iff_iff];simp;try omega)
 refine Ak (h:=?_);refine A4 rfl (fun hb6 hc6=>?_) (fun hb6 hc6=>?_)
 ·refine AG (D9 (h:=?_));refine A6 ?_;exact vb (by unfold Et;rw[Bool.eq_iff_iff];simp;try omega)
 refine Aw (EU (h:=?_));refine A4 rfl (fun hb7 hc7=>?_) (fun hb7 hc7=>?_)
 ·refine CB (h:=?_);refine A6 ?_;exact vb (by unfold Et;rw[Bool.eq_iff_iff];simp;try omega)
 refine FG (h:=?_);refine A6 ?_;exact vb (by unfold Et;rw[Bool.eq_iff_iff];simp;try omega)
theorem Vt(f:Int):AFn prog 216 [.v (.int .i64 f)] (fun r=>r= .v (.bool (Et f))):=by
 refine enter Tryz.func216 rfl rfl rfl rfl rfl 0 rfl ?_;refine w_ (Bo (h:=e_ (BF (q_ (Ak (h:=?_))))));refine A4 rfl (fun hb1 hc1=>?_) (fun hb1 hc1=>?_)
 ·refine AG (D9 (h:=?_));refine A6 ?_;exact vb (by unfold Et;rw[Bool.eq_iff_iff];simp;try omega)
 refine Ak (h:=?_);refine A4 rfl (fun hb2 hc2=>?_) (fun hb2 hc2=>?_)
 ·refine AG (D9 (h:=?_));refine A6 ?_;exact vb (by unfold Et;rw[Bool.eq_iff_iff];simp;try omega)
 refine Ak (h:=?_);refine A4 rfl (fun hb3 hc3=>?_) (fun hb3 hc3=>?_)
 ·refine AG (D9 (h:=?_));refine A6 ?_;exact vb (by unfold Et;rw[Bool.eq_iff_iff];simp;try omega)
 refine Ak (h:=?_);refine A4 rfl (fun hb4 hc4=>?_) (fun hb4 hc4=>?_)
 ·refine AG (D9 (h:=?_));refine A6 ?_;exact vb (by unfold Et;rw[Bool.eq_iff_iff];simp;try omega)
 refine Ak (h:=?_);refine A4 rfl (fun hb5 hc5=>?_) (fun hb5 hc5=>?_)
 ·refine AG (D9 (h:=?_));refine A6 ?_;exact vb (by unfold Et;rw[Bool.eq_iff_iff];simp;try omega)
 refine Ak (h:=?_);refine A4 rfl (fun hb6 hc6=>?_) (fun hb6 hc6=>?_)
 ·refine AG (D9 (h:=?_));refine A6 ?_;exact vb (by unfold Et;rw[Bool.eq_iff_iff];simp;try omega)
 refine Aw (EU (h:=?_));refine A4 rfl (fun hb7 hc7=>?_) (fun hb7 hc7=>?_)
 ·refine CB (h:=?_);refine A6 ?_;exact vb (by unfold Et;rw[Bool.eq_iff_iff];simp;try omega)
 refine FG (h:=?_);refine A6 ?_;exact vb (by unfold Et;rw[Bool.eq_iff_iff];simp;try omega)
theorem Vu(list f:Int):AFn prog 219 [.v (.int .i64 list), .v (.int .i64 f)] (fun r=>r= .v (.bool (Es list f))):=by
 refine enter Tryz.func219 rfl rfl rfl rfl rfl 0 rfl ?_;refine D7 (h:=?_);refine JB (⟨look [(0, .v (.int .i64 list)),(1, .v (.int .i64 f)),(5, .v (.bool (Cx f)))],⟨[],[]⟩⟩) ?_ ?_
 ·skip
  refine C2 (h:=DR (h:=m_ (h:=?_)));refine AJ true rfl rfl (fun hb1 hc1=>?_) (fun hb1 hc1=>?_)
  ·refine m_ (h:=Fg (h:=Bu (h:=?_)));refine AJ false rfl rfl (fun hb2 hc2=>?_) (fun hb2 hc2=>?_)
   ·refine BY (h:=Bu (h:=BY (h:=CD (h:=Cw (h:=?_)))))
    first|(exfalso;first|contradiction|omega)|exact Ah 0 0 rfl rfl rfl rfl (by repeat (first|exact Sub.nil|refine Ai rfl rfl ?_|refine Ap ?_|refine Aq rfl ?_|refine Ar rfl ?_|(apply Sub.of;(focus exact rfl);(focus exact LeA.of_eq (vb (by unfold Cx;rw[Bool.eq_iff_iff];simp;try omega)));(focus exact rfl))))
   refine CE (h:=Bc (h:=?_));refine AJ false rfl rfl (fun hb3 hc3=>?_) (fun hb3 hc3=>?_)
   ·refine BY (h:=CD (h:=Cw (h:=?_)))
    first|(exfalso;first|contradiction|omega)|exact Ah 0 0 rfl rfl rfl rfl (by repeat (first|exact Sub.nil|refine Ai rfl rfl ?_|refine Ap ?_|refine Aq rfl ?_|refine Ar rfl ?_|(apply Sub.of;(focus exact rfl);(focus exact LeA.of_eq (vb (by unfold Cx;rw[Bool.eq_iff_iff];simp;try omega)));(focus exact rfl))))
   refine CE (h:=Bh (h:=Cw (h:=?_)))
   first|(exfalso;first|contradiction|omega)|exact Ah 0 0 rfl rfl rfl rfl (by repeat (first|exact Sub.nil|refine Ai rfl rfl ?_|refine Ap ?_|refine Aq rfl ?_|refine Ar rfl ?_|(apply Sub.of;(focus exact rfl);(focus exact LeA.of_eq (vb (by unfold Cx;rw[Bool.eq_iff_iff];simp;try omega)));(focus exact rfl))))
  refine BY (h:=Bc (h:=CE (h:=Bc (h:=?_))));refine AJ false rfl rfl (fun hb4 hc4=>?_) (fun hb4 hc4=>?_)
  ·refine BY (h:=CD (h:=Cw (h:=?_)))
   (exfalso;first|contradiction|omega)
  refine CE (h:=Bh (h:=Cw (h:=?_)))
  first|(exfalso;first|contradiction|omega)|exact Ah 0 0 rfl rfl rfl rfl (by repeat (first|exact Sub.nil|refine Ai rfl rfl ?_|refine Ap ?_|refine Aq rfl ?_|refine Ar rfl ?_|(apply Sub.of;(focus exact rfl);(focus exact LeA.of_eq (vb (by unfold Cx;rw[Bool.eq_iff_iff];simp;try omega)));(focus exact rfl))))
 skip
 refine Bf (h:=e_ (BF (q_ (Ak (h:=?_)))));refine A4 rfl (fun hb5 hc5=>?_) (fun hb5 hc5=>?_)
 ·refine AG (JL (h:=Ax (h:=?_)));refine A6 ?_
  first|(exfalso;first|contradiction|omega)|(exact vb (by unfold Es;unfold Cx at *;simp only[*];(try rw[Bool.eq_iff_iff]);simp at *;try omega))
 refine Aw (EU (h:=?_));refine A4 rfl (fun hb6 hc6=>?_) (fun hb6 hc6=>?_)
 ·refine Aa (h:=Ax (h:=?_));refine A6 ?_
  first|(exfalso;first|contradiction|omega)|(exact vb (by unfold Es;unfold Cx at *;simp only[*];(try rw[Bool.eq_iff_iff]);simp at *;try omega))
 refine Ak (h:=?_);refine A4 rfl (fun hb7 hc7=>?_) (fun hb7 hc7=>?_)
 ·refine Aa (h:=DR (h:=m_ (h:=?_)));refine AJ true rfl rfl (fun hb8 hc8=>?_) (fun hb8 hc8=>?_)
  ·refine m_ (h:=Fg (h:=CD (h:=Ax (h:=?_))));refine A6 ?_
   first|(exfalso;first|contradiction|omega)|(exact vb (by unfold Es;unfold Cx at *;simp only[*];(try rw[Bool.eq_iff_iff]);simp at *;try omega))
  refine Fj (h:=Ax (h:=?_));refine A6 ?_
  first|(exfalso;first|contradiction|omega)|(exact vb (by unfold Es;unfold Cx at *;simp only[*];(try rw[Bool.eq_iff_iff]);simp at *;try omega))
 refine Ak (h:=?_);refine A4 rfl (fun hb9 hc9=>?_) (fun hb9 hc9=>?_)
 ·refine Aa (h:=DR (h:=m_ (h:=?_)));refine AJ true rfl rfl (fun hb10 hc10=>?_) (fun hb10 hc10=>?_)
  ·refine m_ (h:=Fg (h:=CD (h:=Ax (h:=?_))));refine A6 ?_
   first|(exfalso;first|contradiction|omega)|(exact vb (by unfold Es;unfold Cx at *;simp only[*];(try rw[Bool.eq_iff_iff]);simp at *;try omega))
  refine Fj (h:=Ax (h:=?_));refine A6 ?_
  first|(exfalso;first|contradiction|omega)|(exact vb (by unfold Es;unfold Cx at *;simp only[*];(try rw[Bool.eq_iff_iff]);simp at *;try omega))
 refine Ak (h:=?_);refine A4 rfl (fun hb11 hc11=>?_) (fun hb11 hc11=>?_)
 ·refine DA (h:=?_);refine AJ false rfl rfl (fun hb12 hc12=>?_) (fun hb12 hc12=>?_)
  ·refine BY (h:=CD (h:=Ax (h:=?_)));refine A6 ?_
   first|(exfalso;first|contradiction|omega)|(exact vb (by unfold Es;unfold Cx at *;simp only[*];(try rw[Bool.eq_iff_iff]);simp at *;try omega))
  refine CE (h:=Bh (h:=Ax (h:=?_)));refine A6 ?_
  first|(exfalso;first|contradiction|omega)|(exact vb (by unfold Es;unfold Cx at *;simp only[*];(try rw[Bool.eq_iff_iff]);simp at *;try omega))
 refine FG (h:=?_);refine A6 ?_
 first|(exfalso;first|contradiction|omega)|(exact vb (by unfold Es;unfold Cx at *;simp only[*];(try rw[Bool.eq_iff_iff]);simp at *;try omega))
theorem Vv(list f:Int):AFn prog 215 [.v (.int .i64 list), .v (.int .i64 f)] (fun r=>r= .v (.bool (Es list f))):=by
 refine enter Tryz.func215 rfl rfl rfl rfl rfl 0 rfl ?_;refine w_ (Bo (h:=DK (h:=?_)));refine AJ false rfl rfl (fun hb1 hc1=>?_) (fun hb1 hc1=>?_)
 ·refine BY (h:=Fl (h:=?_));refine A6 ?_
  first|(exfalso;first|contradiction|omega)|(exact vb (by unfold Es Cx;(repeat' split)<;>(try rw[Bool.eq_iff_iff])<;>(try simp)<;>(first|omega|(unfold Cx at *;simp only[decide_eq_true_eq,decide_eq_false_iff_not]at *;omega)|skip)))
 refine m_ (h:=Ed (h:=CO (h:=?_)));refine A4 rfl (fun hb2 hc2=>?_) (fun hb2 hc2=>?_)
 ·refine BK (h:=?_);refine A6 ?_
  first|(exfalso;first|contradiction|omega)|(exact vb (by unfold Es Cx;(repeat' split)<;>(try rw[Bool.eq_iff_iff])<;>(try simp)<;>(first|omega|(unfold Cx at *;simp only[decide_eq_true_eq,decide_eq_false_iff_not]at *;omega)|skip)))
 refine AG (?_);refine JB (⟨look [(0, .v (.int .i64 list)),(1, .v (.int .i64 f)),(5, .v (.bool (Cx f)))],⟨[],[]⟩⟩) ?_ ?_
 ·skip
  refine C2 (h:=Fg (h:=m_ (h:=?_)));refine AJ false rfl rfl (fun hb3 hc3=>?_) (fun hb3 hc3=>?_)
  ·refine BY (h:=Bu (h:=BY (h:=CD (h:=Cw (h:=?_)))))
   first|(exfalso;first|contradiction|omega)|exact Ah 0 0 rfl rfl rfl rfl (by repeat (first|exact Sub.nil|refine Ai rfl rfl ?_|refine Ap ?_|refine Aq rfl ?_|refine Ar rfl ?_|(apply Sub.of;(focus exact rfl);(focus exact LeA.of_eq (vb (by unfold Cx;rw[Bool.eq_iff_iff];simp;try omega)));(focus exact rfl))))
  refine CE (h:=Bc (h:=?_));refine AJ false rfl rfl (fun hb4 hc4=>?_) (fun hb4 hc4=>?_)
  ·refine BY (h:=CD (h:=Cw (h:=?_)))
   first|(exfalso;first|contradiction|omega)|exact Ah 0 0 rfl rfl rfl rfl (by repeat (first|exact Sub.nil|refine Ai rfl rfl ?_|refine Ap ?_|refine Aq rfl ?_|refine Ar rfl ?_|(apply Sub.of;(focus exact rfl);(focus exact LeA.of_eq (vb (by unfold Cx;rw[Bool.eq_iff_iff];simp;try omega)));(focus exact rfl))))
  refine CE (h:=Bh (h:=Cw (h:=?_)))
  first|(exfalso;first|contradiction|omega)|exact Ah 0 0 rfl rfl rfl rfl (by repeat (first|exact Sub.nil|refine Ai rfl rfl ?_|refine Ap ?_|refine Aq rfl ?_|refine Ar rfl ?_|(apply Sub.of;(focus exact rfl);(focus exact LeA.of_eq (vb (by unfold Cx;rw[Bool.eq_iff_iff];simp;try omega)));(focus exact rfl))))
 skip
 refine Bf (h:=e_ (BF (q_ (Ak (h:=?_)))));refine A4 rfl (fun hb5 hc5=>?_) (fun hb5 hc5=>?_)
 ·refine AG (JL (h:=Ax (h:=?_)));refine A6 ?_
  first|(exfalso;first|contradiction|omega)|(exact vb (by unfold Es Cx;(repeat' split)<;>(try rw[Bool.eq_iff_iff])<;>(try simp)<;>(first|omega|(unfold Cx at *;simp only[decide_eq_true_eq,decide_eq_false_iff_not]at *;omega)|skip)))
 refine Aw (EU (h:=?_));refine A4 rfl (fun hb6 hc6=>?_) (fun hb6 hc6=>?_)
 ·refine Aa (h:=Ax (h:=?_));refine A6 ?_
  first|(exfalso;first|contradiction|omega)|(exact vb (by unfold Es Cx;(repeat' split)<;>(try rw[Bool.eq_iff_iff])<;>(try simp)<;>(first|omega|(unfold Cx at *;simp only[decide_eq_true_eq,decide_eq_false_iff_not]at *;omega)|skip)))
 refine Ak (h:=?_);refine A4 rfl (fun hb7 hc7=>?_) (fun hb7 hc7=>?_)
 ·refine Aa (h:=Fg (h:=Ax (h:=?_)));refine A6 ?_
  first|(exfalso;first|contradiction|omega)|(exact vb (by unfold Es Cx;(repeat' split)<;>(try rw[Bool.eq_iff_iff])<;>(try simp)<;>(first|omega|(unfold Cx at *;simp only[decide_eq_true_eq,decide_eq_false_iff_not]at *;omega)|skip)))
 refine Ak (h:=?_);refine A4 rfl (fun hb8 hc8=>?_) (fun hb8 hc8=>?_)
 ·refine Aa (h:=JG (h:=Ax (h:=?_)));refine A6 ?_
  first|(exfalso;first|contradiction|omega)|(exact vb (by unfold Es Cx;(repeat' split)<;>(try rw[Bool.eq_iff_iff])<;>(try simp)<;>(first|omega|(unfold Cx at *;simp only[decide_eq_true_eq,decide_eq_false_iff_not]at *;omega)|skip)))
 refine Ak (h:=?_);refine A4 rfl (fun hb9 hc9=>?_) (fun hb9 hc9=>?_)
 ·refine DA (h:=?_);refine AJ false rfl rfl (fun hb10 hc10=>?_) (fun hb10 hc10=>?_)
  ·refine BY (h:=CD (h:=Ax (h:=?_)));refine A6 ?_
   first|(exfalso;first|contradiction|omega)|(exact vb (by unfold Es Cx;(repeat' split)<;>(try rw[Bool.eq_iff_iff])<;>(try simp)<;>(first|omega|(unfold Cx at *;simp only[decide_eq_true_eq,decide_eq_false_iff_not]at *;omega)|skip)))
  refine CE (h:=Bh (h:=Ax (h:=?_)));refine A6 ?_
  first|(exfalso;first|contradiction|omega)|(exact vb (by unfold Es Cx;(repeat' split)<;>(try rw[Bool.eq_iff_iff])<;>(try simp)<;>(first|omega|(unfold Cx at *;simp only[decide_eq_true_eq,decide_eq_false_iff_not]at *;omega)|skip)))
 refine FG (h:=?_);refine A6 ?_
 first|(exfalso;first|contradiction|omega)|(exact vb (by unfold Es Cx;(repeat' split)<;>(try rw[Bool.eq_iff_iff])<;>(try simp)<;>(first|omega|(unfold Cx at *;simp only[decide_eq_true_eq,decide_eq_false_iff_not]at *;omega)|skip)))
end
end Go.Proofs.YtbgnigjfkbmceaaGreatDoor
