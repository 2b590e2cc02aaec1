/-
  Part 4 of the proof of WatchReplacedP: what the statement's proof uses of the texts in wip/tpl.
-/
import Derived.WalkKit
import Derived.Test.YtobclmbkdhbnpaaGreatDoorQa3
open Go.Proofs.Tryz (prog)
set_option maxRecDepth 10000
set_option maxHeartbeats 4000000
set_option linter.unusedVariables false
set_option linter.unusedSimpArgs false
namespace Go.Proofs.YtobclmbkdhbnpaaGreatDoor
open Go.RowKit
section
variable {P:Program}{N:Dim}{Q:Exit→AS→Prop}{s:AS}
def AC(P:Program)(N:Dim)(y:Code)(Q:Exit→AS→Prop)(s:AS):Prop:=Bz P N y Q s
theorem q_{x y:Code}(h:Bz P N x (G0 (AC P N y Q) Q) s):Bz P N (.seq x y) Q s:=by
 intro E a w hr;refine wp_seq (wp_mono (h E a w hr) ?_);rintro e a' w' ⟨s',hq,hr'⟩
 cases e with
 |normal=>exact hq E a' w' hr'
 |exit id=>exact⟨s',hq,hr'⟩
 |goto l=>exact⟨s',hq,hr'⟩
 |ret=>exact⟨s',hq,hr'⟩
 |panic c=>exact⟨s',hq,hr'⟩
 |outgrown=>exact⟨s',hq,hr'⟩
theorem w_{id:Nat}{l:List Oper}{y:Code}(h:AL P N l.toArray (G0 (AC P N y Q) Q) l s):Bz P N (.seq (.region id l.toArray false) y) Q s:=q_ (AX h)
theorem t_{y:Code}(h:Bz P N y Q s):G0 (AC P N y Q) Q .normal s:=h
theorem e_{ops:Array Oper}{y:Code}(h:Bz P N y Q s):AL P N ops (G0 (AC P N y Q) Q) [] s:=AW h
theorem AN{y:Code}(h:Bz P N y Q s):Bz P N .skip (G0 (AC P N y Q) Q) s:=BA h
theorem BQ{c:Operand}{x y:Code}{t:Bool}(hc:CA s.sl c=some (.v (.bool t)):=by rfl)(ht:t=true:=by first|rfl|assumption|simp[*])(h:Bz P N x Q s):Bz P N (.cond c x y) Q s:=Wm hc ht h
theorem F5{c:Operand}{x y:Code}{t:Bool}(hc:CA s.sl c=some (.v (.bool t)):=by rfl)(ht:t=false:=by first|rfl|assumption|simp[*])(h:Bz P N y Q s):Bz P N (.cond c x y) Q s:=Wn hc ht h
end
section
variable {P:Program}{N:Dim}{Q:Exit→AS→Prop}{ops:Array Oper}{rest:List Oper}{l:List (Nat×AV)}{hh:AH}{op:Op}{ty:TypeId}{pos:String}{af:Array Edge}
theorem A3{d j:Nat}{want t:Bool}(hd:Nat.blt d N.n=true:=by rfl)(hy:yv ops (look l) j=some (some t):=by rfl)(ht:(t==want)=false:=by first|rfl|exact S8 ‹_›|exact S9 ‹_›|simp[*])(h:AL P N ops Q rest ⟨look ((d, .v undef)::l),hh⟩):AL P N ops Q (⟨some d,op,ty,pos,af,some (j,want)⟩::rest) ⟨look l,hh⟩:=Wo hd hy ht h
theorem EV{d j:Nat}{want:Bool}(hd:Nat.blt d N.n=true:=by rfl)(hy:yv ops (look l) j=some none:=by rfl)(h:AL P N ops Q rest ⟨look ((d, .v undef)::l),hh⟩):AL P N ops Q (⟨some d,op,ty,pos,af,some (j,want)⟩::rest) ⟨look l,hh⟩:=Wp hd hy h
end
def KB:List (Nat×List AV)→AH→Prop
 |[],_=>True
 |(i,r)::l,h=>h.bx[i]?=some r∧KB l h
def PR:List (Nat×List AV)→Nat→Option (List AV)
 |[],_=>none
 |(i,r)::l,j=>match Nat.beq i j with
   |true=>some r
   |false=>PR l j
theorem kb:∀{l:List (Nat×List AV)} {h:AH} {i:Nat} {row:List AV},KB l h→PR l i=some row→h.bx[i]?=some row
 |[],_,_,_,_,e=>by cases e
 |(j,r)::l,h,i,row,k,e=>by
   unfold PR at e;split at e
   ·rename_i hb;have:=Nat.eq_of_beq_eq_true hb;subst this;injection e with e;subst e;exact k.1
   exact kb k.2 e
theorem Ll(h:AH):KB [] h:=trivial
theorem Lm{l:List (Nat×List AV)}{h:AH}{i:Nat}{r:List AV}(h1:h.bx[i]?=some r)(h2:KB l h):KB ((i,r)::l) h:=⟨h1,h2⟩
def Do(_i:Nat)(B A:Prop):Prop:=B→A
section
variable {P:Program}{N:Dim}{l:List Oper}{Q:Exit→AS→Prop}{S:AH→Prop}{tl fuel:Nat}{listed:Array Bool}{m:List (Nat×AV)}{hh:AH}{op:Op}{ty:TypeId}{pos:String}{af:Array Edge}{gd:Option (Nat×Bool)}
theorem CX{i d:Nat}{x:AV}(hi:l[i]?=some ⟨some d,op,ty,pos,af,gd⟩)(hst:AStep P ⟨some d,op,ty,pos,af,gd⟩ (CA (look m)) hh (fun x' h'=>x'=x∧h'=hh))(hd:Nat.blt d N.n=true:=by rfl)(htl:(Gj l.toArray tl listed&& !Nat.ble tl i&&Region.free .any l.toArray listed i&&(Region.ready .any l.toArray listed).contains i)=true:=by kernel_rfl)
    (hw:CP l.toArray (look m) ⟨some d,op,ty,pos,af,gd⟩=some true:=by first|rfl|exact AO rfl rfl (BG ‹_›)|exact AO rfl rfl (BH ‹_›)|exact AO rfl rfl (by simp[*])):
    Do i (AAny P N l.toArray Q (fun h'=>h'=hh) tl fuel (listed.setIfInBounds i true) ⟨look ((d,x)::m),hh⟩) (AAny P N l.toArray Q (fun h'=>h'=hh) tl (fuel+1) listed ⟨look m,hh⟩):=fun H=>Rk hi hd htl hw hst H
theorem CY{K:List (Nat×List AV)}{i d:Nat}{x:AV}(hi:l[i]?=some ⟨some d,op,ty,pos,af,gd⟩)(hst:∀h,KB K h→AStep P ⟨some d,op,ty,pos,af,gd⟩ (CA (look m)) h (fun x' h'=>x'=x∧h'=h))(hd:Nat.blt d N.n=true:=by rfl)(htl:(Gj l.toArray tl listed&& !Nat.ble tl i&&Region.free .any l.toArray listed i&&(Region.ready .any l.toArray listed).contains i)=true:=by kernel_rfl)
    (hw:CP l.toArray (look m) ⟨some d,op,ty,pos,af,gd⟩=some true:=by first|rfl|exact AO rfl rfl (BG ‹_›)|exact AO rfl rfl (BH ‹_›)|exact AO rfl rfl (by simp[*])) (hS:KB K hh:=by repeat (first|exact Ll _|refine Lm rfl ?_)):
    Do i (AAny P N l.toArray Q (KB K) tl fuel (listed.setIfInBounds i true) ⟨look ((d,x)::m),hh⟩) (AAny P N l.toArray Q (KB K) tl (fuel+1) listed ⟨look m,hh⟩):=fun H=>BR hi hd htl hw hst hS H
theorem B4{K:List (Nat×List AV)}(i:Nat){d:Nat}{x:AV}(hi:l[i]?=some ⟨some d,op,ty,pos,af,gd⟩)(hst:∀h,KB K h→AStep P ⟨some d,op,ty,pos,af,gd⟩ (CA (look m)) h (fun x' h'=>x'=x∧h'=h))(H:AAny P N l.toArray Q (KB K) tl fuel (listed.setIfInBounds i true) ⟨look ((d,x)::m),hh⟩)(hd:Nat.blt d N.n=true:=by rfl)(htl:(Gj l.toArray tl listed&& !Nat.ble tl i&&Region.free .any l.toArray listed i&&(Region.ready .any l.toArray listed).contains i)=true:=by kernel_rfl)
    (hw:CP l.toArray (look m) ⟨some d,op,ty,pos,af,gd⟩=some true:=by first|rfl|exact AO rfl rfl (BG ‹_›)|exact AO rfl rfl (BH ‹_›)|exact AO rfl rfl (by simp[*])) (hS:KB K hh:=by repeat (first|exact Ll _|refine Lm rfl ?_)):AAny P N l.toArray Q (KB K) tl (fuel+1) listed ⟨look m,hh⟩:=BR hi hd htl hw hst hS H
theorem AG(i:Nat){d:Nat}(hi:l[i]?=some ⟨some d,op,ty,pos,af,gd⟩:=by rfl)(hd:Nat.blt d N.n=true:=by rfl)(htl:(Gj l.toArray tl listed&& !Nat.ble tl i&&Region.free .any l.toArray listed i&&(Region.ready .any l.toArray listed).contains i)=true:=by kernel_rfl)
    (hw:CP l.toArray (look m) ⟨some d,op,ty,pos,af,gd⟩=some false:=by first|rfl|exact Om rfl rfl (S8 ‹_›)|exact Om rfl rfl (S9 ‹_›)|exact WO rfl rfl|exact Om rfl rfl (by simp[*]))
    (hS:S hh:=by first|rfl|(repeat (first|exact Ll _|refine Lm rfl ?_))) (h:AAny P N l.toArray Q S tl fuel (listed.setIfInBounds i true) ⟨look ((d, .v undef)::m),hh⟩):AAny P N l.toArray Q S tl (fuel+1) listed ⟨look m,hh⟩:=WH hi hd htl hw hS h
theorem c_(i:Nat){d:Nat}(hi:l[i]?=some ⟨some d,op,ty,pos,af,gd⟩)(H:AStep P ⟨some d,op,ty,pos,af,gd⟩ (CA (look m)) hh (fun x h'=>(Nat.ble tl i=true∨S h')∧AAny P N l.toArray Q S tl fuel (listed.setIfInBounds i true) ⟨look ((d,x)::m),h'⟩))(hd:Nat.blt d N.n=true:=by rfl)(hr:Region.ready .any l.toArray listed=[i]:=by kernel_rfl)
    (hw:CP l.toArray (look m) ⟨some d,op,ty,pos,af,gd⟩=some true:=by first|rfl|exact AO rfl rfl (BG ‹_›)|exact AO rfl rfl (BH ‹_›)|exact AO rfl rfl (by simp[*])):AAny P N l.toArray Q S tl (fuel+1) listed ⟨look m,hh⟩:=WJ hi hd hr hw H
theorem B8(i:Nat)(hi:l[i]?=some ⟨none,op,ty,pos,af,gd⟩)(H:AStep P ⟨none,op,ty,pos,af,gd⟩ (CA (look m)) hh (fun _ h'=>(Nat.ble tl i=true∨S h')∧AAny P N l.toArray Q S tl fuel (listed.setIfInBounds i true) ⟨look m,h'⟩))(hr:Region.ready .any l.toArray listed=[i]:=by kernel_rfl)
    (hw:CP l.toArray (look m) ⟨none,op,ty,pos,af,gd⟩=some true:=by first|rfl|exact AO rfl rfl (BG ‹_›)|exact AO rfl rfl (BH ‹_›)|exact AO rfl rfl (by simp[*])):AAny P N l.toArray Q S tl (fuel+1) listed ⟨look m,hh⟩:=WK hi hr hw H
theorem Es(i j:Nat){di dj:Nat}{op':Op}{ty':TypeId}{pos':String}{af':Array Edge}{gd':Option (Nat×Bool)}(hi:l[i]?=some ⟨some di,op,ty,pos,af,gd⟩)(hj:l[j]?=some ⟨some dj,op',ty',pos',af',gd'⟩)
    (H1:AStep P ⟨some di,op,ty,pos,af,gd⟩ (CA (look m)) hh (fun x h'=>(Nat.ble tl i=true∨S h')∧AAny P N l.toArray Q S tl fuel (listed.setIfInBounds i true) ⟨look ((di,x)::m),h'⟩))
    (H2:AStep P ⟨some dj,op',ty',pos',af',gd'⟩ (CA (look m)) hh (fun x h'=>(Nat.ble tl j=true∨S h')∧AAny P N l.toArray Q S tl fuel (listed.setIfInBounds j true) ⟨look ((dj,x)::m),h'⟩))
    (hdi:Nat.blt di N.n=true:=by rfl) (hdj:Nat.blt dj N.n=true:=by rfl) (hr:Region.ready .any l.toArray listed=[i,j]:=by kernel_rfl)
    (hwi:CP l.toArray (look m) ⟨some di,op,ty,pos,af,gd⟩=some true:=by first|rfl|exact AO rfl rfl (BG ‹_›)|exact AO rfl rfl (BH ‹_›)|exact AO rfl rfl (by simp[*]))
    (hwj:CP l.toArray (look m) ⟨some dj,op',ty',pos',af',gd'⟩=some true:=by first|rfl|exact AO rfl rfl (BG ‹_›)|exact AO rfl rfl (BH ‹_›)|exact AO rfl rfl (by simp[*])):AAny P N l.toArray Q S tl (fuel+1) listed ⟨look m,hh⟩:=X5 hr hi hdi hwi hj hdj hwj H1 H2
theorem o_{i:Nat}{A:Prop}{h':AH}(hS:Nat.ble tl i=true∨S h':=by first|exact .inl rfl|exact .inr rfl|exact .inr (by repeat (first|exact Ll _|refine Lm rfl ?_)))(h:A):(Nat.ble tl i=true∨S h')∧A:=⟨hS,h⟩
theorem z_(hr:Region.ready .any l.toArray listed=[]:=by kernel_rfl)(h:Q .normal ⟨look m,hh⟩):AAny P N l.toArray Q S tl fuel listed ⟨look m,hh⟩:=WN hr h fuel
theorem Dk(tl:Nat){id:Nat}(hm:P.follows .mixedOrders=true:=by kernel_rfl)(h:AAny P N l.toArray Q (fun h'=>h'=hh) tl l.length (Array.replicate l.length false) ⟨look m,hh⟩):Bz P N (.region id l.toArray true) Q ⟨look m,hh⟩:=WM tl hm h
theorem Bi(K:List (Nat×List AV))(tl:Nat){id:Nat}(hm:P.follows .mixedOrders=true:=by kernel_rfl)(h:AAny P N l.toArray Q (KB K) tl l.length (Array.replicate l.length false) ⟨look m,hh⟩):Bz P N (.region id l.toArray true) Q ⟨look m,hh⟩:=KT _ tl hm h
end
section
variable {P:Program}{rs:List ResultVar}{n:Nat}{R:AV→List (List AV)→List Cb→Prop}{s:AS}{xs:List AV}{r:AV}
theorem B0(g:Option Nat){tk':List Cb}(h1:ResA P s rs xs:=by repeat (first|exact ResA.nil|(apply ResA.tmp;(focus exact rfl))|(apply ResA.cellN;(focus exact inferInstance);(focus exact rfl);(focus exact rfl);(focus exact rfl))|(apply ResA.cell1;(focus exact inferInstance);(focus exact rfl);(focus exact rfl);(focus exact rfl))))(h2:JD s.h.tk g=some tk':=by rfl)(h3:Ap n 1 (DF g (EK xs))=true:=by rfl)(h4:At n 0 (s.h.bx.take n)=true:=by rfl)(h5:LeA (DF g (EK xs)) r)(h6:R r (s.h.bx.take n) tk'):JE P rs n R .ret s:=P9 g h1 h2 h3 h4 h5 h6
theorem Nb(g:Option Nat){tk':List Cb}(h1:ResA P s rs xs:=by repeat (first|exact ResA.nil|(apply ResA.tmp;(focus exact rfl))|(apply ResA.cellN;(focus exact inferInstance);(focus exact rfl);(focus exact rfl);(focus exact rfl))|(apply ResA.cell1;(focus exact inferInstance);(focus exact rfl);(focus exact rfl);(focus exact rfl))))(h2:JD s.h.tk g=some tk':=by rfl)(h3:Ap n 1 (DF g (EK xs))=true:=by rfl)(h4:At n 0 (s.h.bx.take n)=true:=by rfl)(h5:LeA (DF g (EK xs)) r)(h6:R r (s.h.bx.take n) tk'):JE P rs n R .normal s:=We g h1 h2 h3 h4 h5 h6
end
theorem m_{A B:Prop}(k:B→A:=by intro b;first|exact A7 rfl (En rfl b)|exact Aw (En rfl b))(h:B):A:=k h
theorem AP(i:Nat){A B:Prop}(k:Do i B A:=by first|exact CX rfl (En rfl ⟨rfl,rfl⟩)|exact CY rfl (fun _ _=>En rfl ⟨rfl,rfl⟩))(h:B):A:=k h
theorem a_{A B:Prop}(k:B→A:=by intro b;first|exact A7 rfl (Gl rfl b)|exact Aw (Gl rfl b))(h:B):A:=k h
theorem BN(i:Nat){A B:Prop}(k:Do i B A:=by first|exact CX rfl (Gl rfl ⟨rfl,rfl⟩)|exact CY rfl (fun _ _=>Gl rfl ⟨rfl,rfl⟩))(h:B):A:=k h
theorem f_{A B:Prop}(k:B→A:=by intro b;first|exact A7 rfl (Ee rfl b)|exact A7 rfl (Gq rfl b)|exact Aw (Ee rfl b)|exact Aw (Gq rfl b))(h:B):A:=k h
theorem AQ(i:Nat){A B:Prop}(k:Do i B A:=by first|exact CX rfl (Ee rfl ⟨rfl,rfl⟩)|exact CX rfl (Gq rfl ⟨rfl,rfl⟩)|exact CY rfl (fun _ _=>Ee rfl ⟨rfl,rfl⟩)|exact CY rfl (fun _ _=>Gq rfl ⟨rfl,rfl⟩))(h:B):A:=k h
theorem l_{A B:Prop}(k:B→A:=by intro b;first|exact A7 rfl (Bh rfl rfl rfl b)|exact A7 rfl (Fd rfl rfl rfl b)|exact A7 rfl (Gr rfl rfl b)|exact A7 rfl (J8 rfl rfl b)|exact A7 rfl (Ez rfl rfl rfl b)|exact A7 rfl (Hd rfl rfl b)|exact Aw (Bh rfl rfl rfl b)|exact Aw (Fd rfl rfl rfl b)|exact Aw (Gr rfl rfl b)|exact Aw (J8 rfl rfl b)|exact Aw (Ez rfl rfl rfl b)|exact Aw (Hd rfl rfl b))(h:B):A:=k h
theorem AF(i:Nat){A B:Prop}(k:Do i B A:=by first|exact CX rfl (Bh rfl rfl rfl ⟨rfl,rfl⟩)|exact CX rfl (Fd rfl rfl rfl ⟨rfl,rfl⟩)|exact CX rfl (Gr rfl rfl ⟨rfl,rfl⟩)|exact CX rfl (J8 rfl rfl ⟨rfl,rfl⟩)|exact CX rfl (Ez rfl rfl rfl ⟨rfl,rfl⟩)|exact CX rfl (Hd rfl rfl ⟨rfl,rfl⟩)|exact CY rfl (fun _ hS=>Bh rfl (kb hS rfl) rfl ⟨rfl,rfl⟩)|exact CY rfl (fun _ hS=>Fd rfl (kb hS rfl) rfl ⟨rfl,rfl⟩)|exact CY rfl (fun _ _=>Gr rfl rfl ⟨rfl,rfl⟩)|exact CY rfl (fun _ _=>J8 rfl rfl ⟨rfl,rfl⟩)|exact CY rfl (fun _ hS=>Ez rfl (kb hS rfl) rfl ⟨rfl,rfl⟩)|exact CY rfl (fun _ _=>Hd rfl rfl ⟨rfl,rfl⟩))(h:B):A:=k h
theorem s_{A B:Prop}(k:B→A:=by intro b;exact Ld (B3 rfl rfl rfl rfl rfl rfl (by repeat constructor) (by repeat constructor) b))(h:B):A:=k h
theorem b_{A B:Prop}(k:B→A:=by intro b;first|exact A7 rfl (PF rfl rfl (by repeat constructor) b)|exact A7 rfl (PD rfl rfl (by repeat constructor) b)|exact Aw (PF rfl rfl (by repeat constructor) b)|exact Aw (PD rfl rfl (by repeat constructor) b))(h:B):A:=k h
theorem Af{A B:Prop}(k:B→A:=by intro b;first|exact A7 rfl (CW (by repeat constructor) b)|exact Aw (CW (by repeat constructor) b))(h:B):A:=k h
theorem n_{A B:Prop}(k:B→A:=by intro b;first|exact A7 rfl (NC rfl b)|exact A7 rfl (NA (by kernel_rfl) rfl b)|exact A7 rfl (ND rfl b)|exact Aw (NC rfl b)|exact Aw (NA (by kernel_rfl) rfl b)|exact Aw (ND rfl b))(h:B):A:=k h
theorem JF(i:Nat){A B:Prop}(k:Do i B A:=by first|exact CX rfl (NC rfl ⟨rfl,rfl⟩)|exact CX rfl (NA (by kernel_rfl) rfl ⟨rfl,rfl⟩)|exact CX rfl (ND rfl ⟨rfl,rfl⟩)|exact CY rfl (fun _ _=>NC rfl ⟨rfl,rfl⟩)|exact CY rfl (fun _ _=>NA (by kernel_rfl) rfl ⟨rfl,rfl⟩)|exact CY rfl (fun _ _=>ND rfl ⟨rfl,rfl⟩))(h:B):A:=k h
theorem Hf{A B:Prop}(k:B→A:=by intro b;first|exact A7 rfl (Eo rfl rfl rfl (by simp<;>omega) (by repeat constructor) b)|exact A7 rfl (Ep rfl rfl (by simp<;>omega) (by repeat constructor) b)|exact Aw (Eo rfl rfl rfl (by simp<;>omega) (by repeat constructor) b)|exact Aw (Ep rfl rfl (by simp<;>omega) (by repeat constructor) b))(h:B):A:=k h
theorem x_{A B:Prop}(k:B→A:=by intro b;first|exact A7 rfl (Mv rfl rfl b)|exact Aw (Mv rfl rfl b))(h:B):A:=k h
theorem BK(i:Nat){A B:Prop}(k:Do i B A:=by first|exact CX rfl (Mv rfl rfl ⟨rfl,rfl⟩)|exact CY rfl (fun _ _=>Mv rfl rfl ⟨rfl,rfl⟩))(h:B):A:=k h
theorem k_{A B:Prop}(k:B→A:=by intro b;first|exact A7 rfl (Gm rfl b)|exact A7 rfl (Gp rfl b)|exact Aw (Gm rfl b)|exact Aw (Gp rfl b))(h:B):A:=k h
theorem BW(i:Nat){A B:Prop}(k:Do i B A:=by first|exact CX rfl (Gm rfl ⟨rfl,rfl⟩)|exact CX rfl (Gp rfl ⟨rfl,rfl⟩)|exact CY rfl (fun _ _=>Gm rfl ⟨rfl,rfl⟩)|exact CY rfl (fun _ _=>Gp rfl ⟨rfl,rfl⟩))(h:B):A:=k h
theorem Aa{A B:Prop}(k:B→A:=by intro b;first|exact A7 rfl (LW (by repeat (first|exact FillA.nil _|(apply FillA.cons;(focus exact rfl);(focus exact rfl);(focus exact rfl);(focus exact rfl);(focus exact rfl);(focus (repeat constructor))))) b)|exact Aw (LW (by repeat (first|exact FillA.nil _|(apply FillA.cons;(focus exact rfl);(focus exact rfl);(focus exact rfl);(focus exact rfl);(focus exact rfl);(focus (repeat constructor))))) b))(h:B):A:=k h
theorem Fh(i:Nat){A B:Prop}(k:Do i B A:=by first|exact CX rfl (LW (by repeat (first|exact FillA.nil _|(apply FillA.cons;(focus exact rfl);(focus exact rfl);(focus exact rfl);(focus exact rfl);(focus exact rfl);(focus (repeat constructor))))) ⟨rfl,rfl⟩)|exact CY rfl (fun _ _=>LW (by repeat (first|exact FillA.nil _|(apply FillA.cons;(focus exact rfl);(focus exact rfl);(focus exact rfl);(focus exact rfl);(focus exact rfl);(focus (repeat constructor))))) ⟨rfl,rfl⟩))(h:B):A:=k h
theorem C2{A B:Prop}(k:B→A:=by intro b;first|exact A7 rfl (LX (by repeat (first|exact DenseA.nil _|(apply DenseA.cons;(focus exact rfl);(focus exact rfl);(focus exact rfl);(focus exact rfl))|(apply DenseA.consE;(focus exact rfl);(focus exact rfl);(focus exact rfl)))) rfl rfl rfl rfl b)|exact Aw (LX (by repeat (first|exact DenseA.nil _|(apply DenseA.cons;(focus exact rfl);(focus exact rfl);(focus exact rfl);(focus exact rfl))|(apply DenseA.consE;(focus exact rfl);(focus exact rfl);(focus exact rfl)))) rfl rfl rfl rfl b))(h:B):A:=k h
theorem Ka(i:Nat){A B:Prop}(k:Do i B A:=by first|exact CX rfl (LX (by repeat (first|exact DenseA.nil _|(apply DenseA.cons;(focus exact rfl);(focus exact rfl);(focus exact rfl);(focus exact rfl))|(apply DenseA.consE;(focus exact rfl);(focus exact rfl);(focus exact rfl)))) rfl rfl rfl rfl ⟨rfl,rfl⟩)|exact CY rfl (fun _ _=>LX (by repeat (first|exact DenseA.nil _|(apply DenseA.cons;(focus exact rfl);(focus exact rfl);(focus exact rfl);(focus exact rfl))|(apply DenseA.consE;(focus exact rfl);(focus exact rfl);(focus exact rfl)))) rfl rfl rfl rfl ⟨rfl,rfl⟩))(h:B):A:=k h
theorem AU{A B:Prop}(k:B→A:=by intro b;first|exact A7 rfl (NR b)|exact Aw (NR b))(h:B):A:=k h
theorem CQ(i:Nat){A B:Prop}(k:Do i B A:=by first|exact CX rfl (NR ⟨rfl,rfl⟩)|exact CY rfl (fun _ _=>NR ⟨rfl,rfl⟩))(h:B):A:=k h
theorem Ah{A B:Prop}(k:B→A:=by intro b;first|exact A7 rfl (NT b)|exact Aw (NT b))(h:B):A:=k h
theorem CR(i:Nat){A B:Prop}(k:Do i B A:=by first|exact CX rfl (NT ⟨rfl,rfl⟩)|exact CY rfl (fun _ _=>NT ⟨rfl,rfl⟩))(h:B):A:=k h
theorem i_{A B:Prop}(k:B→A:=by intro b;first|exact A7 rfl (CM rfl rfl rfl (by first|assumption|rfl) b)|exact Aw (CM rfl rfl rfl (by first|assumption|rfl) b))(h:B):A:=k h
theorem Dr(i:Nat){A B:Prop}(k:Do i B A:=by first|exact CX rfl (CM rfl rfl rfl (by first|assumption|rfl) ⟨rfl,rfl⟩)|exact CY rfl (fun _ _=>CM rfl rfl rfl (by first|assumption|rfl) ⟨rfl,rfl⟩))(h:B):A:=k h
theorem X6{A B:Prop}(k:B→A:=by intro b;first|exact A7 rfl (SA rfl rfl (by omega) (by repeat constructor) b)|exact Aw (SA rfl rfl (by omega) (by repeat constructor) b))(h:B):A:=k h
theorem BZ{A B:Prop}(k:B→A:=by intro b;first|exact A7 rfl (N9 rfl b)|exact Aw (N9 rfl b))(h:B):A:=k h
theorem Gt(i:Nat){A B:Prop}(k:Do i B A:=by first|exact CX rfl (N9 rfl ⟨rfl,rfl⟩)|exact CY rfl (fun _ _=>N9 rfl ⟨rfl,rfl⟩))(h:B):A:=k h
theorem B2{A B:Prop}(k:B→A:=by intro b;first|exact A7 rfl (Ji rfl rfl (by omega) b)|exact A7 rfl (Ef rfl rfl (by omega) b)|exact A7 rfl (P3 rfl rfl b)|exact Aw (Ji rfl rfl (by omega) b)|exact Aw (Ef rfl rfl (by omega) b)|exact Aw (P3 rfl rfl b))(h:B):A:=k h
theorem PS{A B:Prop}(k:B→A:=by intro b;first|exact A7 rfl (Jj rfl rfl (by omega) b)|exact A7 rfl (LV rfl rfl b)|exact Aw (Jj rfl rfl (by omega) b)|exact Aw (LV rfl rfl b))(h:B):A:=k h
theorem Ln(i:Nat){A B:Prop}(k:Do i B A:=by first|exact CX rfl (Jj rfl rfl (by omega) ⟨rfl,rfl⟩)|exact CX rfl (LV rfl rfl ⟨rfl,rfl⟩)|exact CY rfl (fun _ _=>Jj rfl rfl (by omega) ⟨rfl,rfl⟩)|exact CY rfl (fun _ _=>LV rfl rfl ⟨rfl,rfl⟩))(h:B):A:=k h
theorem X7{A B:Prop}(k:B→A:=by intro b;first|exact A7 rfl (Rq rfl rfl b)|exact Aw (Rq rfl rfl b))(h:B):A:=k h
theorem Ac{A B:Prop}(k:B→A:=by intro b;first|exact A7 rfl (Mz rfl rfl b)|exact A7 rfl (N5 rfl rfl b)|exact A7 rfl (NM (by kernel_rfl) rfl rfl b)|exact Aw (Mz rfl rfl b)|exact Aw (N5 rfl rfl b)|exact Aw (NM (by kernel_rfl) rfl rfl b))(h:B):A:=k h
theorem GL(i:Nat){A B:Prop}(k:Do i B A:=by first|exact CX rfl (Mz rfl rfl ⟨rfl,rfl⟩)|exact CX rfl (N5 rfl rfl ⟨rfl,rfl⟩)|exact CX rfl (NM (by kernel_rfl) rfl rfl ⟨rfl,rfl⟩)|exact CY rfl (fun _ _=>Mz rfl rfl ⟨rfl,rfl⟩)|exact CY rfl (fun _ _=>N5 rfl rfl ⟨rfl,rfl⟩)|exact CY rfl (fun _ _=>NM (by kernel_rfl) rfl rfl ⟨rfl,rfl⟩))(h:B):A:=k h
theorem BX{A B:Prop}(k:B→A:=by intro b;first|exact A7 rfl (N0 rfl rfl b)|exact A7 rfl (N6 rfl rfl b)|exact A7 rfl (NN (by kernel_rfl) rfl rfl b)|exact Aw (N0 rfl rfl b)|exact Aw (N6 rfl rfl b)|exact Aw (NN (by kernel_rfl) rfl rfl b))(h:B):A:=k h
theorem JG(i:Nat){A B:Prop}(k:Do i B A:=by first|exact CX rfl (N0 rfl rfl ⟨rfl,rfl⟩)|exact CX rfl (N6 rfl rfl ⟨rfl,rfl⟩)|exact CX rfl (NN (by kernel_rfl) rfl rfl ⟨rfl,rfl⟩)|exact CY rfl (fun _ _=>N0 rfl rfl ⟨rfl,rfl⟩)|exact CY rfl (fun _ _=>N6 rfl rfl ⟨rfl,rfl⟩)|exact CY rfl (fun _ _=>NN (by kernel_rfl) rfl rfl ⟨rfl,rfl⟩))(h:B):A:=k h
theorem BO{A B:Prop}(k:B→A:=by intro b;first|exact A7 rfl (N1 rfl rfl b)|exact A7 rfl (N7 rfl rfl b)|exact Aw (N1 rfl rfl b)|exact Aw (N7 rfl rfl b))(h:B):A:=k h
theorem SU(i:Nat){A B:Prop}(k:Do i B A:=by first|exact CX rfl (N1 rfl rfl ⟨rfl,rfl⟩)|exact CX rfl (N7 rfl rfl ⟨rfl,rfl⟩)|exact CY rfl (fun _ _=>N1 rfl rfl ⟨rfl,rfl⟩)|exact CY rfl (fun _ _=>N7 rfl rfl ⟨rfl,rfl⟩))(h:B):A:=k h
theorem Lo{A B:Prop}(k:B→A:=by intro b;first|exact A7 rfl (N2 rfl rfl b)|exact Aw (N2 rfl rfl b))(h:B):A:=k h
theorem X8(i:Nat){A B:Prop}(k:Do i B A:=by first|exact CX rfl (N2 rfl rfl ⟨rfl,rfl⟩)|exact CY rfl (fun _ _=>N2 rfl rfl ⟨rfl,rfl⟩))(h:B):A:=k h
theorem CS{A B:Prop}(k:B→A:=by intro b;first|exact A7 rfl (N3 rfl rfl b)|exact Aw (N3 rfl rfl b))(h:B):A:=k h
theorem Js(i:Nat){A B:Prop}(k:Do i B A:=by first|exact CX rfl (N3 rfl rfl ⟨rfl,rfl⟩)|exact CY rfl (fun _ _=>N3 rfl rfl ⟨rfl,rfl⟩))(h:B):A:=k h
theorem G6{A B:Prop}(k:B→A:=by intro b;first|exact A7 rfl (N4 rfl rfl b)|exact A7 rfl (N8 rfl rfl b)|exact Aw (N4 rfl rfl b)|exact Aw (N8 rfl rfl b))(h:B):A:=k h
theorem PT(i:Nat){A B:Prop}(k:Do i B A:=by first|exact CX rfl (N4 rfl rfl ⟨rfl,rfl⟩)|exact CX rfl (N8 rfl rfl ⟨rfl,rfl⟩)|exact CY rfl (fun _ _=>N4 rfl rfl ⟨rfl,rfl⟩)|exact CY rfl (fun _ _=>N8 rfl rfl ⟨rfl,rfl⟩))(h:B):A:=k h
theorem EL{A B:Prop}(k:B→A:=by intro b;first|exact A7 rfl (SB rfl rfl b)|exact Aw (SB rfl rfl b))(h:B):A:=k h
theorem at_{A B:Prop}(k:B→A:=by intro b;first|exact A7 rfl (SJ rfl rfl b)|exact Aw (SJ rfl rfl b))(h:B):A:=k h
theorem SV{A B:Prop}(k:B→A:=by intro b;first|exact A7 rfl (SC rfl rfl (by omega) b)|exact Aw (SC rfl rfl (by omega) b))(h:B):A:=k h
theorem Bj{f:Nat→Option AV}{bx:List (List AV)}{tk:List (Nat×Nat×List (List AV))}{l:List (Nat×AV)}{N:Dim}(n m:Nat){bx':List (List AV)}{tk':List (Nat×Nat×List (List AV))}(hbp:At n m bx'=true)(hn:Nat.ble N.ni n=true:=by rfl)(hb:bx.take n=bx':=by rfl)(ht:tk.take m=tk':=by rfl)(hl:Sub n m f l:=by repeat (first|exact Sub.nil|refine Sub.cons _ _ _ rfl rfl ?_|refine Sub.any _ _ ?_|refine Sub.sl _ _ _ _ _ rfl ?_|refine Sub.slnil _ _ _ rfl ?_)):Weak N ⟨f,⟨bx,tk⟩⟩ ⟨look l,⟨bx',tk'⟩⟩:=B7 n m hn hb ht hbp hl
theorem DK{P:Program}{ev:Operand→Option AV}{h:AH}{R:AV→AH→Prop}{d:Option Tmp}{ty:TypeId}{pos:String}{af:Array Edge}{gd:Option (Nat×Bool)}{T:TypeId}{l:List (Nat×Operand)}{pl:List (Nat×Nat)}{row cs:List AV}[hp:Plc P T pl][hz:Zer P T row](hR:R (.agg cs) h)(hf:FillA pl ev row l cs:=by repeat (first|exact FillA.nil _|(apply FillA.cons;(focus exact rfl);(focus exact rfl);(focus exact rfl);(focus exact rfl);(focus exact rfl);(focus (repeat constructor))))):AStep P ⟨d, .build T l.toArray,ty,pos,af,gd⟩ ev h R:=LW hf hR
theorem FJ{P:Program}{ev:Operand→Option AV}{h:AH}{R:AV→AH→Prop}{o:Oper}{x y:AV}(hs:AStep P o ev h fun r h'=>r=x∧h'=h)(hR:R y h)(hl:LeA x y:=by repeat (first|exact AM _|exact LeA.nil _|exact LeL.refl _|refine LeA.agg ?_|refine LeA.tup ?_|exact LeL.nil|refine LeL.cons ?_ ?_|exact LeA.any _)):AStep P o ev h R:=F0 hs hl hR
instance :Typ prog 3 1 false:=⟨by kernel_rfl⟩
instance :Typ prog 4 1 false:=⟨by kernel_rfl⟩
instance :Typ prog 9 1 false:=⟨by kernel_rfl⟩
instance :Typ prog 22 1 false:=⟨by kernel_rfl⟩
instance :Elm prog 22 3 1 8:=⟨by kernel_rfl,by decide⟩
instance :Typ prog 25 1 false:=⟨by kernel_rfl⟩
instance :Elm prog 25 83 2 32:=⟨by kernel_rfl,by decide⟩
instance :Typ prog 27 1 true:=⟨by kernel_rfl⟩
instance :Zer prog 27 [.v (.slice none 0 0)]:=⟨[.slice none 0 0],by kernel_rfl,rfl,rfl⟩
instance :Plc prog 27 [(0,1)]:=⟨by kernel_rfl⟩
instance :Fld prog 27 0 0 1:=⟨by kernel_rfl⟩
instance :Typ prog 28 1 false:=⟨by kernel_rfl⟩
instance :Elm prog 28 108 3 24:=⟨by kernel_rfl,by decide⟩
instance :Typ prog 30 2 true:=⟨by kernel_rfl⟩
instance :Zer prog 30 [.v (.slice none 0 0), .v (.slice none 0 0)]:=⟨[.slice none 0 0, .slice none 0 0],by kernel_rfl,rfl,rfl⟩
instance :Plc prog 30 [(0,1),(1,1)]:=⟨by kernel_rfl⟩
instance :Fld prog 30 0 0 1:=⟨by kernel_rfl⟩
instance :Fld prog 30 1 1 1:=⟨by kernel_rfl⟩
instance :Typ prog 33 2 true:=⟨by kernel_rfl⟩
instance :Zer prog 33 [.v (.int .i64 0), .v (.int .i64 0)]:=⟨[.int .i64 0, .int .i64 0],by kernel_rfl,rfl,rfl⟩
instance :Plc prog 33 [(0,1),(1,1)]:=⟨by kernel_rfl⟩
instance :Fld prog 33 0 0 1:=⟨by kernel_rfl⟩
instance :Fld prog 33 1 1 1:=⟨by kernel_rfl⟩
instance :Typ prog 35 6 true:=⟨by kernel_rfl⟩
instance :Zer prog 35 [.v (.int .i64 0), .v (.int .i64 0), .v (.int .i64 0), .v (.string ⟨#[]⟩), .v (.int .i64 0), .v (.int .i64 0)]:=⟨[.int .i64 0, .int .i64 0, .int .i64 0, .string ⟨#[]⟩, .int .i64 0, .int .i64 0],by kernel_rfl,rfl,rfl⟩
instance :Plc prog 35 [(0,1),(1,2),(3,1),(4,2)]:=⟨by kernel_rfl⟩
instance :Fld prog 35 0 0 1:=⟨by kernel_rfl⟩
instance :Fld prog 35 1 1 2:=⟨by kernel_rfl⟩
instance :Fld prog 35 2 3 1:=⟨by kernel_rfl⟩
instance :Fld prog 35 3 4 2:=⟨by kernel_rfl⟩
instance :Typ prog 40 1 false:=⟨by kernel_rfl⟩
instance :Typ prog 44 1 false:=⟨by kernel_rfl⟩
instance :Elm prog 44 67 7 64:=⟨by kernel_rfl,by decide⟩
instance :Typ prog 51 13 true:=⟨by kernel_rfl⟩
instance :Zer prog 51 [.v (.string ⟨#[]⟩), .v (.string ⟨#[]⟩), .v (.int .i64 0), .v (.int .i64 0), .v (.string ⟨#[]⟩), .v (.int .i64 0), .v (.int .i64 0), .v (.int .i64 0), .v (.int .i64 0), .v (.int .i64 0), .v (.int .i64 0), .v (.int .i64 0), .v (.int .i64 0)]:=⟨[.string ⟨#[]⟩, .string ⟨#[]⟩, .int .i64 0, .int .i64 0, .string ⟨#[]⟩, .int .i64 0, .int .i64 0, .int .i64 0, .int .i64 0, .int .i64 0, .int .i64 0, .int .i64 0, .int .i64 0],by kernel_rfl,rfl,rfl⟩
instance :Plc prog 51 [(0,1),(1,1),(2,2),(4,1),(5,2),(7,1),(8,1),(9,1),(10,1),(11,1),(12,1)]:=⟨by kernel_rfl⟩
instance :Fld prog 51 2 2 2:=⟨by kernel_rfl⟩
instance :Fld prog 51 3 4 1:=⟨by kernel_rfl⟩
instance :Fld prog 51 4 5 2:=⟨by kernel_rfl⟩
instance :Fld prog 51 5 7 1:=⟨by kernel_rfl⟩
instance :Fld prog 51 6 8 1:=⟨by kernel_rfl⟩
instance :Fld prog 51 7 9 1:=⟨by kernel_rfl⟩
instance :Fld prog 51 8 10 1:=⟨by kernel_rfl⟩
instance :Fld prog 51 9 11 1:=⟨by kernel_rfl⟩
instance :Typ prog 54 1 false:=⟨by kernel_rfl⟩
instance :Elm prog 54 128 14 144:=⟨by kernel_rfl,by decide⟩
instance :Typ prog 56 3 true:=⟨by kernel_rfl⟩
instance :Zer prog 56 [.v (.int .i64 0), .v (.int .i64 0), .v (.slice none 0 0)]:=⟨[.int .i64 0, .int .i64 0, .slice none 0 0],by kernel_rfl,rfl,rfl⟩
instance :Plc prog 56 [(0,1),(1,1),(2,1)]:=⟨by kernel_rfl⟩
instance :Fld prog 56 0 0 1:=⟨by kernel_rfl⟩
instance :Fld prog 56 1 1 1:=⟨by kernel_rfl⟩
instance :Fld prog 56 2 2 1:=⟨by kernel_rfl⟩
instance :Typ prog 58 5 true:=⟨by kernel_rfl⟩
instance :Zer prog 58 [.v (.slice none 0 0), .v (.slice none 0 0), .v (.int .i64 0), .v (.int .i64 0), .v (.slice none 0 0)]:=⟨[.slice none 0 0, .slice none 0 0, .int .i64 0, .int .i64 0, .slice none 0 0],by kernel_rfl,rfl,rfl⟩
instance :Plc prog 58 [(0,2),(2,3)]:=⟨by kernel_rfl⟩
instance :Fld prog 58 0 0 2:=⟨by kernel_rfl⟩
instance :Fld prog 58 1 2 3:=⟨by kernel_rfl⟩
instance :Typ prog 63 1 false:=⟨by kernel_rfl⟩
instance :Elm prog 63 88 2 24:=⟨by kernel_rfl,by decide⟩
instance :Typ prog 65 8 true:=⟨by kernel_rfl⟩
instance :Zer prog 65 [.v (.int .i64 0), .v (.int .i64 0), .v (.int .i64 0), .v (.int .i64 0), .v (.int .i64 0), .v (.int .i64 0), .v (.string ⟨#[]⟩), .v (.slice none 0 0)]:=⟨[.int .i64 0, .int .i64 0, .int .i64 0, .int .i64 0, .int .i64 0, .int .i64 0, .string ⟨#[]⟩, .slice none 0 0],by kernel_rfl,rfl,rfl⟩
instance :Plc prog 65 [(0,1),(1,1),(2,1),(3,1),(4,1),(5,1),(6,1),(7,1)]:=⟨by kernel_rfl⟩
instance :Fld prog 65 0 0 1:=⟨by kernel_rfl⟩
instance :Fld prog 65 1 1 1:=⟨by kernel_rfl⟩
instance :Fld prog 65 2 2 1:=⟨by kernel_rfl⟩
instance :Fld prog 65 3 3 1:=⟨by kernel_rfl⟩
instance :Fld prog 65 4 4 1:=⟨by kernel_rfl⟩
instance :Fld prog 65 5 5 1:=⟨by kernel_rfl⟩
instance :Fld prog 65 6 6 1:=⟨by kernel_rfl⟩
instance :Fld prog 65 7 7 1:=⟨by kernel_rfl⟩
instance :Typ prog 67 7 true:=⟨by kernel_rfl⟩
instance :Zer prog 67 [.v (.int .i64 0), .v (.int .i64 0), .v (.string ⟨#[]⟩), .v (.int .i64 0), .v (.int .i64 0), .v (.int .i64 0), .v (.int .i64 0)]:=⟨[.int .i64 0, .int .i64 0, .string ⟨#[]⟩, .int .i64 0, .int .i64 0, .int .i64 0, .int .i64 0],by kernel_rfl,rfl,rfl⟩
instance :Plc prog 67 [(0,2),(2,1),(3,2),(5,2)]:=⟨by kernel_rfl⟩
instance :Fld prog 67 0 0 2:=⟨by kernel_rfl⟩
instance :Fld prog 67 1 2 1:=⟨by kernel_rfl⟩
instance :Fld prog 67 2 3 2:=⟨by kernel_rfl⟩
instance :Fld prog 67 3 5 2:=⟨by kernel_rfl⟩
instance :Typ prog 68 1 false:=⟨by kernel_rfl⟩
instance :Elm prog 68 9 1 16:=⟨by kernel_rfl,by decide⟩
instance :Zer prog 75 [.v (.slice none 0 0), .v (.int .i64 0)]:=⟨[.slice none 0 0, .int .i64 0],by kernel_rfl,rfl,rfl⟩
instance :Plc prog 75 [(0,1),(1,1)]:=⟨by kernel_rfl⟩
instance :Fld prog 75 0 0 1:=⟨by kernel_rfl⟩
instance :Fld prog 75 1 1 1:=⟨by kernel_rfl⟩
instance :Typ prog 81 1 false:=⟨by kernel_rfl⟩
instance :Elm prog 81 65 8 88:=⟨by kernel_rfl,by decide⟩
instance :Typ prog 83 2 true:=⟨by kernel_rfl⟩
instance :Zer prog 83 [.v (.int .i64 0), .v (.slice none 0 0)]:=⟨[.int .i64 0, .slice none 0 0],by kernel_rfl,rfl,rfl⟩
instance :Plc prog 83 [(0,1),(1,1)]:=⟨by kernel_rfl⟩
instance :Fld prog 83 0 0 1:=⟨by kernel_rfl⟩
instance :Fld prog 83 1 1 1:=⟨by kernel_rfl⟩
instance :Typ prog 88 2 true:=⟨by kernel_rfl⟩
instance :Zer prog 88 [.v (.string ⟨#[]⟩), .v (.int .i64 0)]:=⟨[.string ⟨#[]⟩, .int .i64 0],by kernel_rfl,rfl,rfl⟩
instance :Plc prog 88 [(0,1),(1,1)]:=⟨by kernel_rfl⟩
instance :Fld prog 88 0 0 1:=⟨by kernel_rfl⟩
instance :Fld prog 88 1 1 1:=⟨by kernel_rfl⟩
instance :Typ prog 89 1 false:=⟨by kernel_rfl⟩
instance :Elm prog 89 51 13 128:=⟨by kernel_rfl,by decide⟩
instance :Typ prog 91 5 true:=⟨by kernel_rfl⟩
instance :Zer prog 91 [.v (.int .i64 0), .v (.int .i64 0), .v (.int .i64 0), .v (.slice none 0 0), .v (.slice none 0 0)]:=⟨[.int .i64 0, .int .i64 0, .int .i64 0, .slice none 0 0, .slice none 0 0],by kernel_rfl,rfl,rfl⟩
instance :Plc prog 91 [(0,1),(1,1),(2,1),(3,1),(4,1)]:=⟨by kernel_rfl⟩
instance :Fld prog 91 0 0 1:=⟨by kernel_rfl⟩
instance :Fld prog 91 2 2 1:=⟨by kernel_rfl⟩
instance :Fld prog 91 3 3 1:=⟨by kernel_rfl⟩
instance :Fld prog 91 4 4 1:=⟨by kernel_rfl⟩
instance :Typ prog 94 4 true:=⟨by kernel_rfl⟩
instance :Zer prog 94 [.v (.int .i64 0), .v (.int .i64 0), .v (.int .i64 0), .v (.int .i64 0)]:=⟨[.int .i64 0, .int .i64 0, .int .i64 0, .int .i64 0],by kernel_rfl,rfl,rfl⟩
instance :Plc prog 94 [(0,1),(1,1),(2,1),(3,1)]:=⟨by kernel_rfl⟩
instance :Typ prog 96 7 true:=⟨by kernel_rfl⟩
instance :Zer prog 96 [.v (.int .i64 0), .v (.int .i64 0), .v (.int .i64 0), .v (.int .i64 0), .v (.int .i64 0), .v (.slice none 0 0), .v (.slice none 0 0)]:=⟨[.int .i64 0, .int .i64 0, .int .i64 0, .int .i64 0, .int .i64 0, .slice none 0 0, .slice none 0 0],by kernel_rfl,rfl,rfl⟩
instance :Plc prog 96 [(0,1),(1,4),(5,1),(6,1)]:=⟨by kernel_rfl⟩
instance :Fld prog 96 0 0 1:=⟨by kernel_rfl⟩
instance :Fld prog 96 1 1 4:=⟨by kernel_rfl⟩
instance :Fld prog 96 2 5 1:=⟨by kernel_rfl⟩
instance :Fld prog 96 3 6 1:=⟨by kernel_rfl⟩
instance :Elm prog 99 40 1 8:=⟨by kernel_rfl,by decide⟩
instance :Typ prog 108 3 true:=⟨by kernel_rfl⟩
instance :Zer prog 108 [.v (.int .i64 0), .v (.int .i64 0), .v (.int .i64 0)]:=⟨[.int .i64 0, .int .i64 0, .int .i64 0],by kernel_rfl,rfl,rfl⟩
instance :Plc prog 108 [(0,1),(1,2)]:=⟨by kernel_rfl⟩
instance :Fld prog 108 0 0 1:=⟨by kernel_rfl⟩
instance :Fld prog 108 1 1 2:=⟨by kernel_rfl⟩
instance :Zer prog 113 [.v (.int .i64 0), .v (.int .i64 0), .v (.int .i64 0), .v (.int .i64 0)]:=⟨[.int .i64 0, .int .i64 0, .int .i64 0, .int .i64 0],by kernel_rfl,rfl,rfl⟩
instance :Plc prog 113 [(0,2),(2,2)]:=⟨by kernel_rfl⟩
instance :Typ prog 121 8 true:=⟨by kernel_rfl⟩
instance :Zer prog 121 [.v (.int .i64 0), .v (.int .i64 0), .v (.string ⟨#[]⟩), .v (.int .i64 0), .v (.int .i64 0), .v (.bool false), .v (.bool false), .v (.string ⟨#[]⟩)]:=⟨[.int .i64 0, .int .i64 0, .string ⟨#[]⟩, .int .i64 0, .int .i64 0, .bool false, .bool false, .string ⟨#[]⟩],by kernel_rfl,rfl,rfl⟩
instance :Plc prog 121 [(0,2),(2,1),(3,2),(5,1),(6,1),(7,1)]:=⟨by kernel_rfl⟩
instance :Fld prog 121 0 0 2:=⟨by kernel_rfl⟩
instance :Fld prog 121 1 2 1:=⟨by kernel_rfl⟩
instance :Fld prog 121 2 3 2:=⟨by kernel_rfl⟩
instance :Fld prog 121 3 5 1:=⟨by kernel_rfl⟩
instance :Fld prog 121 4 6 1:=⟨by kernel_rfl⟩
instance :Fld prog 121 5 7 1:=⟨by kernel_rfl⟩
instance :Typ prog 126 1 false:=⟨by kernel_rfl⟩
instance :Elm prog 126 220 4 32:=⟨by kernel_rfl,by decide⟩
instance :Typ prog 128 14 true:=⟨by kernel_rfl⟩
instance :Zer prog 128 [.v (.int .i64 0), .v (.int .i64 0), .v (.int .i64 0), .v (.int .i64 0), .v (.int .i64 0), .v (.int .i64 0), .v (.int .i64 0), .v (.int .i64 0), .v (.int .i64 0), .v (.int .i64 0), .v (.string ⟨#[]⟩), .v (.string ⟨#[]⟩), .v (.slice none 0 0), .v (.bool false)]:=⟨[.int .i64 0, .int .i64 0, .int .i64 0, .int .i64 0, .int .i64 0, .int .i64 0, .int .i64 0, .int .i64 0, .int .i64 0, .int .i64 0, .string ⟨#[]⟩, .string ⟨#[]⟩, .slice none 0 0, .bool false],by kernel_rfl,rfl,rfl⟩
instance :Plc prog 128 [(0,1),(1,1),(2,1),(3,1),(4,1),(5,1),(6,1),(7,1),(8,2),(10,1),(11,1),(12,1),(13,1)]:=⟨by kernel_rfl⟩
instance :Fld prog 128 0 0 1:=⟨by kernel_rfl⟩
instance :Fld prog 128 3 3 1:=⟨by kernel_rfl⟩
instance :Fld prog 128 5 5 1:=⟨by kernel_rfl⟩
instance :Fld prog 128 8 8 2:=⟨by kernel_rfl⟩
instance :Fld prog 128 11 12 1:=⟨by kernel_rfl⟩
instance :Typ prog 134 1 false:=⟨by kernel_rfl⟩
instance :Elm prog 134 121 8 72:=⟨by kernel_rfl,by decide⟩
instance :Zer prog 136 [.v (.slice none 0 0), .v (.slice none 0 0), .v (.int .i64 0), .v (.int .i64 0), .v (.slice none 0 0), .v (.int .i64 0), .v (.int .i64 0), .v (.int .i64 0), .v (.int .i64 0), .v (.int .i64 0), .v (.int .i64 0), .v (.int .i64 0), .v (.int .i64 0), .v (.int .i64 0), .v (.int .i64 0), .v (.string ⟨#[]⟩), .v (.string ⟨#[]⟩), .v (.slice none 0 0), .v (.bool false), .v (.int .i64 0), .v (.int .i64 0), .v (.int .i64 0), .v (.int .i64 0), .v (.int .i64 0), .v (.slice none 0 0), .v (.slice none 0 0), .v (.slice none 0 0), .v (.int .i64 0), .v (.int .i64 0), .v (.int .i64 0), .v (.slice none 0 0), .v (.slice none 0 0)]:=⟨[.slice none 0 0, .slice none 0 0, .int .i64 0, .int .i64 0, .slice none 0 0, .int .i64 0, .int .i64 0, .int .i64 0, .int .i64 0, .int .i64 0, .int .i64 0, .int .i64 0, .int .i64 0, .int .i64 0, .int .i64 0, .string ⟨#[]⟩, .string ⟨#[]⟩, .slice none 0 0, .bool false, .int .i64 0, .int .i64 0, .int .i64 0, .int .i64 0, .int .i64 0, .slice none 0 0, .slice none 0 0, .slice none 0 0, .int .i64 0, .int .i64 0, .int .i64 0, .slice none 0 0, .slice none 0 0],by kernel_rfl,rfl,rfl⟩
instance :Plc prog 136 [(0,5),(5,14),(19,7),(26,1),(27,5)]:=⟨by kernel_rfl⟩
instance :Fld prog 136 0 0 5:=⟨by kernel_rfl⟩
instance :Fld prog 136 1 5 14:=⟨by kernel_rfl⟩
instance :Fld prog 136 2 19 7:=⟨by kernel_rfl⟩
instance :Fld prog 136 3 26 1:=⟨by kernel_rfl⟩
instance :Fld prog 136 4 27 5:=⟨by kernel_rfl⟩
instance :Typ prog 155 11 true:=⟨by kernel_rfl⟩
instance :Zer prog 155 [.v (.slice none 0 0), .v (.slice none 0 0), .v (.slice none 0 0), .v (.int .i64 0), .v (.int .i64 0), .v (.int .i64 0), .v (.int .i64 0), .v (.string ⟨#[]⟩), .v (.bool false), .v (.bool false), .v (.int .i64 0)]:=⟨[.slice none 0 0, .slice none 0 0, .slice none 0 0, .int .i64 0, .int .i64 0, .int .i64 0, .int .i64 0, .string ⟨#[]⟩, .bool false, .bool false, .int .i64 0],by kernel_rfl,rfl,rfl⟩
instance :Plc prog 155 [(0,2),(2,1),(3,2),(5,2),(7,1),(8,1),(9,1),(10,1)]:=⟨by kernel_rfl⟩
instance :Fld prog 155 0 0 2:=⟨by kernel_rfl⟩
instance :Fld prog 155 1 2 1:=⟨by kernel_rfl⟩
instance :Fld prog 155 2 3 2:=⟨by kernel_rfl⟩
instance :Fld prog 155 3 5 2:=⟨by kernel_rfl⟩
instance :Fld prog 155 4 7 1:=⟨by kernel_rfl⟩
instance :Fld prog 155 5 8 1:=⟨by kernel_rfl⟩
instance :Fld prog 155 6 9 1:=⟨by kernel_rfl⟩
instance :Fld prog 155 7 10 1:=⟨by kernel_rfl⟩
instance :Typ prog 168 5 true:=⟨by kernel_rfl⟩
instance :Zer prog 168 [.v (.string ⟨#[]⟩), .v (.int .i64 0), .v (.int .i64 0), .v (.int .i64 0), .v (.int .i64 0)]:=⟨[.string ⟨#[]⟩, .int .i64 0, .int .i64 0, .int .i64 0, .int .i64 0],by kernel_rfl,rfl,rfl⟩
instance :Plc prog 168 [(0,1),(1,1),(2,1),(3,1),(4,1)]:=⟨by kernel_rfl⟩
instance :Fld prog 168 0 0 1:=⟨by kernel_rfl⟩
instance :Fld prog 168 1 1 1:=⟨by kernel_rfl⟩
instance :Fld prog 168 2 2 1:=⟨by kernel_rfl⟩
instance :Fld prog 168 3 3 1:=⟨by kernel_rfl⟩
instance :Fld prog 168 4 4 1:=⟨by kernel_rfl⟩
instance :Elm prog 190 168 5 48:=⟨by kernel_rfl,by decide⟩
instance :Zer prog 220 [.v (.int .i64 0), .v (.int .i64 0), .v (.int .i64 0), .v (.int .i64 0)]:=⟨[.int .i64 0, .int .i64 0, .int .i64 0, .int .i64 0],by kernel_rfl,rfl,rfl⟩
instance :Plc prog 220 [(0,1),(1,2),(3,1)]:=⟨by kernel_rfl⟩
instance :Fld prog 220 0 0 1:=⟨by kernel_rfl⟩
instance :Fun prog 5:=⟨by kernel_rfl⟩
instance :Fun prog 6:=⟨by kernel_rfl⟩
instance :Fun prog 7:=⟨by kernel_rfl⟩
instance :Fun prog 8:=⟨by kernel_rfl⟩
instance :Fun prog 9:=⟨by kernel_rfl⟩
instance :Fun prog 10:=⟨by kernel_rfl⟩
instance :Fun prog 11:=⟨by kernel_rfl⟩
instance :Fun prog 12:=⟨by kernel_rfl⟩
instance :Fun prog 13:=⟨by kernel_rfl⟩
instance :Fun prog 14:=⟨by kernel_rfl⟩
instance :Fun prog 15:=⟨by kernel_rfl⟩
instance :Fun prog 16:=⟨by kernel_rfl⟩
instance :Fun prog 17:=⟨by kernel_rfl⟩
instance :Fun prog 18:=⟨by kernel_rfl⟩
instance :Fun prog 19:=⟨by kernel_rfl⟩
instance :Fun prog 20:=⟨by kernel_rfl⟩
instance :Fun prog 21:=⟨by kernel_rfl⟩
instance :Fun prog 22:=⟨by kernel_rfl⟩
instance :Fun prog 23:=⟨by kernel_rfl⟩
instance :Fun prog 24:=⟨by kernel_rfl⟩
instance :Fun prog 25:=⟨by kernel_rfl⟩
instance :Fun prog 26:=⟨by kernel_rfl⟩
instance :Fun prog 27:=⟨by kernel_rfl⟩
instance :Fun prog 28:=⟨by kernel_rfl⟩
instance :Fun prog 29:=⟨by kernel_rfl⟩
instance :Fun prog 30:=⟨by kernel_rfl⟩
instance :Fun prog 31:=⟨by kernel_rfl⟩
instance :Fun prog 32:=⟨by kernel_rfl⟩
instance :Fun prog 33:=⟨by kernel_rfl⟩
instance :Fun prog 34:=⟨by kernel_rfl⟩
instance :Fun prog 35:=⟨by kernel_rfl⟩
instance :Fun prog 36:=⟨by kernel_rfl⟩
instance :Fun prog 37:=⟨by kernel_rfl⟩
instance :Fun prog 38:=⟨by kernel_rfl⟩
instance :Fun prog 39:=⟨by kernel_rfl⟩
instance :Fun prog 40:=⟨by kernel_rfl⟩
instance :Fun prog 41:=⟨by kernel_rfl⟩
instance :Fun prog 42:=⟨by kernel_rfl⟩
instance :Fun prog 43:=⟨by kernel_rfl⟩
instance :Fun prog 44:=⟨by kernel_rfl⟩
instance :Fun prog 45:=⟨by kernel_rfl⟩
instance :Fun prog 46:=⟨by kernel_rfl⟩
instance :Fun prog 47:=⟨by kernel_rfl⟩
instance :Fun prog 48:=⟨by kernel_rfl⟩
instance :Fun prog 49:=⟨by kernel_rfl⟩
instance :Fun prog 50:=⟨by kernel_rfl⟩
instance :Fun prog 51:=⟨by kernel_rfl⟩
instance :Fun prog 52:=⟨by kernel_rfl⟩
instance :Fun prog 53:=⟨by kernel_rfl⟩
instance :Fun prog 54:=⟨by kernel_rfl⟩
instance :Fun prog 55:=⟨by kernel_rfl⟩
instance :Fun prog 56:=⟨by kernel_rfl⟩
instance :Fun prog 57:=⟨by kernel_rfl⟩
instance :Fun prog 58:=⟨by kernel_rfl⟩
instance :Fun prog 59:=⟨by kernel_rfl⟩
instance :Fun prog 60:=⟨by kernel_rfl⟩
instance :Fun prog 61:=⟨by kernel_rfl⟩
instance :Fun prog 62:=⟨by kernel_rfl⟩
instance :Fun prog 63:=⟨by kernel_rfl⟩
instance :Fun prog 64:=⟨by kernel_rfl⟩
instance :Fun prog 65:=⟨by kernel_rfl⟩
instance :Fun prog 66:=⟨by kernel_rfl⟩
instance :Fun prog 67:=⟨by kernel_rfl⟩
instance :Fun prog 68:=⟨by kernel_rfl⟩
instance :Fun prog 69:=⟨by kernel_rfl⟩
instance :Fun prog 70:=⟨by kernel_rfl⟩
instance :Fun prog 71:=⟨by kernel_rfl⟩
instance :Fun prog 72:=⟨by kernel_rfl⟩
instance :Fun prog 74:=⟨by kernel_rfl⟩
instance :Fun prog 77:=⟨by kernel_rfl⟩
instance :Fun prog 78:=⟨by kernel_rfl⟩
instance :Fun prog 79:=⟨by kernel_rfl⟩
instance :Fun prog 80:=⟨by kernel_rfl⟩
instance :Fun prog 81:=⟨by kernel_rfl⟩
instance :Fun prog 82:=⟨by kernel_rfl⟩
instance :Fun prog 83:=⟨by kernel_rfl⟩
instance :Fun prog 84:=⟨by kernel_rfl⟩
instance :Fun prog 85:=⟨by kernel_rfl⟩
instance :Fun prog 86:=⟨by kernel_rfl⟩
instance :Fun prog 87:=⟨by kernel_rfl⟩
instance :Fun prog 88:=⟨by kernel_rfl⟩
instance :Fun prog 89:=⟨by kernel_rfl⟩
instance :Fun prog 90:=⟨by kernel_rfl⟩
instance :Fun prog 91:=⟨by kernel_rfl⟩
instance :Fun prog 92:=⟨by kernel_rfl⟩
instance :Fun prog 93:=⟨by kernel_rfl⟩
instance :Fun prog 94:=⟨by kernel_rfl⟩
instance :Fun prog 95:=⟨by kernel_rfl⟩
instance :Fun prog 96:=⟨by kernel_rfl⟩
instance :Fun prog 97:=⟨by kernel_rfl⟩
instance :Fun prog 98:=⟨by kernel_rfl⟩
instance :Fun prog 99:=⟨by kernel_rfl⟩
instance :Fun prog 102:=⟨by kernel_rfl⟩
instance :Fun prog 107:=⟨by kernel_rfl⟩
instance :Fun prog 108:=⟨by kernel_rfl⟩
instance :Fun prog 109:=⟨by kernel_rfl⟩
instance :Fun prog 110:=⟨by kernel_rfl⟩
instance :Fun prog 111:=⟨by kernel_rfl⟩
instance :Fun prog 112:=⟨by kernel_rfl⟩
instance :Fun prog 113:=⟨by kernel_rfl⟩
instance :Fun prog 114:=⟨by kernel_rfl⟩
instance :Fun prog 120:=⟨by kernel_rfl⟩
instance :Fun prog 122:=⟨by kernel_rfl⟩
instance :Fun prog 123:=⟨by kernel_rfl⟩
instance :Fun prog 124:=⟨by kernel_rfl⟩
instance :Fun prog 125:=⟨by kernel_rfl⟩
instance :Fun prog 126:=⟨by kernel_rfl⟩
instance :Fun prog 127:=⟨by kernel_rfl⟩
instance :Fun prog 128:=⟨by kernel_rfl⟩
instance :Fun prog 129:=⟨by kernel_rfl⟩
instance :Fun prog 130:=⟨by kernel_rfl⟩
instance :Fun prog 131:=⟨by kernel_rfl⟩
instance :Fun prog 132:=⟨by kernel_rfl⟩
instance :Fun prog 133:=⟨by kernel_rfl⟩
instance :Fun prog 134:=⟨by kernel_rfl⟩
instance :Fun prog 135:=⟨by kernel_rfl⟩
instance :Fun prog 136:=⟨by kernel_rfl⟩
instance :Fun prog 137:=⟨by kernel_rfl⟩
instance :Fun prog 138:=⟨by kernel_rfl⟩
instance :Fun prog 149:=⟨by kernel_rfl⟩
instance :Fun prog 150:=⟨by kernel_rfl⟩
instance :Fun prog 151:=⟨by kernel_rfl⟩
instance :Fun prog 160:=⟨by kernel_rfl⟩
instance :Fun prog 164:=⟨by kernel_rfl⟩
instance :Fun prog 165:=⟨by kernel_rfl⟩
end Go.Proofs.YtobclmbkdhbnpaaGreatDoor
namespace Go.Proofs.YtobclmbkdhbnpaaGreatDoor
abbrev AE:=ByteArray
abbrev A9:=Int×Int
abbrev B1:=AE×Int
abbrev Db:=Int×A9
abbrev Bp:=A9×AE×A9×A9
structure Nod where
 ino:Int
 kind:Int
 mode:Int
 uid:Int
 gid:Int
 parent:Int
 target:AE
 entries:List B1
structure Dvc where
 next:Int
 nodes:List Nod
abbrev AT:=List Dvc
structure Spc where
 files:AT
 mounts:List Db
def Nod.zero:Nod:=⟨0,0,0,0,0,0,⟨#[]⟩,[]⟩
def Jt{α:Type}(p:α→Bool)(l:List α):Int:=
 match l.findIdx? p with
 |some i=>(i:Int)
 |none=> -1
def FK{α:Type}(l:List α)(i:Int):Option α:=if i<0 then none else l[i.toNat]?
theorem Hg{α:Type}(l:List α)(k:Nat):FK l (k:Int)=l[k]?:=by
 simp[FK,show¬((k:Int)<0) by omega]
theorem Nc{α:Type}{l:List α}{i:Int}(h:i<0∨(l.length:Int)≤i):FK l i=none:=by
 unfold FK;split
 ·rfl
 rw[List.getElem?_eq_none];omega
theorem X9{α:Type}{l:List α}{i:Int}{x:α}(h:FK l i=some x):0≤i∧i<l.length∧l[i.toNat]?=some x:=by
 unfold FK at h;split at h
 ·cases h
 have:=(Ai.1 h).1;exact⟨by omega,by omega,h⟩
theorem SW{α:Type}{p:α→Bool}{l:List α}{m:Nat}{x:α}(hx:l[m]?=some x)(hp:p x=true)(h:∀j y,j<m→l[j]?=some y→p y=false):l.findIdx? p=some m:=by
 have hl:m<l.length:=(Ai.1 hx).1;rw[List.findIdx?_eq_some_iff_getElem];refine⟨hl,by rw[(Ai.1 hx).2];exact hp,fun j hj=>?_⟩;have:=h j l[j] hj (BM _);simp[this]
theorem SX{α:Type}{p:α→Bool}{l:List α}{m:Nat}{x:α}(hx:l[m]?=some x)(hp:p x=true)(h:∀j y,j<m→l[j]?=some y→p y=false):Jt p l=m:=by
 unfold Jt;rw[SW hx hp h]
theorem XA{α:Type}{p:α→Bool}{l:List α}(h:∀j y,j<l.length→l[j]?=some y→p y=false):Jt p l= -1:=by
 unfold Jt;rw[List.findIdx?_eq_none_iff.2];intro x hx;obtain⟨j,hj,rfl⟩:=List.mem_iff_getElem.1 hx;exact h j _ hj (BM hj)
theorem EW{α:Type}{P:α→Prop}{l:List α}{m:Nat}{x:α}(hx:l[m]?=some x)(h:∀j y,j<m→l[j]?=some y→P y)(hp:P x):∀j y,j<m+1→l[j]?=some y→P y:=by
 intro j y hj hy;by_cases e:j=m
 ·subst e;rw[hx]at hy;cases hy;exact hp
 exact h j y (by omega) hy
def EX(f:AT)(at_:A9):Int:=
 match FK f at_.1 with
 |none=> -1
 |some d=>Jt (fun n:Nod=>n.ino==at_.2) d.nodes
def Bo(f:AT)(at_:A9):Option Nod:=
 match FK f at_.1 with
 |none=>none
 |some d=>d.nodes.find? (fun n:Nod=>n.ino==at_.2)
theorem SY{α:Type}{p:α→Bool}{l:List α}:(l.findIdx? p).bind (fun i=>l[i]?)=l.find? p:=by
 cases h:l.findIdx? p with
 |none=>
   rw[List.findIdx?_eq_none_iff]at h;simp only[Option.bind_none];exact(List.find?_eq_none.2 (fun x hx=>by simp[h x hx])).symm
 |some i=>
   obtain⟨hi,hp,hf⟩:=List.findIdx?_eq_some_iff_getElem.1 h;simp only[Option.bind_some,BM hi];exact(List.find?_eq_some_iff_getElem.2 ⟨hp,i,hi,rfl,fun j hj=>by simpa using hf j hj⟩).symm
theorem Gu(f:AT)(at_:A9):(EX f at_= -1∧Bo f at_=none)∨
    ∃(k i:Nat) (d:Dvc) (n:Nod),at_.1=k∧f[k]?=some d∧d.nodes[i]?=some n∧n.ino=at_.2∧EX f at_=i∧Bo f at_=some n:=by
 unfold EX Bo
 cases h:FK f at_.1 with
 |none=>exact .inl ⟨rfl,rfl⟩
 |some d=>
   obtain⟨h0,h1,h2⟩:=X9 h;simp only[←SY];unfold Jt
   cases hi:d.nodes.findIdx? (fun n:Nod=>n.ino==at_.2)with
   |none=>exact .inl ⟨rfl,rfl⟩
   |some i=>
     obtain⟨hl,hp,_⟩:=List.findIdx?_eq_some_iff_getElem.1 hi;exact .inr ⟨at_.1.toNat,i,d,d.nodes[i],by omega,h2,BM hl,by simpa using hp,rfl,by simp⟩
theorem Lp(a b:AE):(a.toList==b.toList)=decide (a=b):=by
 rw[ByteArray.toList_eq,ByteArray.toList_eq,Bool.eq_iff_iff];simp only[beq_iff_eq,decide_eq_true_eq];constructor
 ·intro h
  cases a with
  |mk a=>
    cases b with
    |mk b=>exact congrArg ByteArray.mk (Array.toList_inj.1 h)
 intro h;rw[h]
def Hh(c:UInt8):Bool:= !((c.toNat:Int)==0)&& !((c.toNat:Int)==47)
def D4(s:AE):Bool:=
 if s.size<1∨12<s.size then false else if(s.toList==[46])=true then false else if(s.toList==[46,46])=true then false else s.data.toList.all Hh
def JH(s:AE):Bool:=s.data.toList.all (fun c=> !((c.toNat:Int)==0))&&decide (1≤s.size)&&decide (s.size≤128)
theorem SZ{p:UInt8→Bool}{s:AE}(h:∀j (hj:j<s.size),p s[j]=true):s.data.toList.all p=true:=by
 rw[List.all_eq_true];intro c hc;obtain⟨j,hj,rfl⟩:=List.mem_iff_getElem.1 hc;exact h j (by simpa using hj)
theorem PU{p:UInt8→Bool}{s:AE}{j:Nat}(hj:j<s.size)(h:p s[j]=false):s.data.toList.all p=false:=by
 rw[List.all_eq_false];refine⟨s[j],?_,by simp[h]⟩;have:s[j]=s.data.toList[j]'(by simpa using hj):=rfl;rw[this];exact List.getElem_mem _
theorem Sa{p:UInt8→Bool}{s:AE}{m:Nat}(hm:m<s.size)(h:∀j (hj:j<s.size),j<m→p s[j]=true)(hp:p s[m]=true):∀j (hj:j<s.size),j<m+1→p s[j]=true:=by
 intro j hj hlt;by_cases e:j=m
 ·subst e;exact hp
 exact h j hj (by omega)
def Ag(f:AT)(at_:A9):Bool:=
 match Bo f at_ with
 |none=>false
 |some n=>n.kind==2
def C6(f:AT)(dir:A9)(name:AE):Int:=
 match Bo f dir with
 |none=>2
 |some n=>if n.kind=2 then(if D4 name then 0 else 22)else 20
def Hi(f:AT)(dir:A9):Bool:=
 match Bo f dir with
 |none=>false
 |some n=>decide (12≤n.entries.length)
def Hj(f:AT)(dir:A9):Bool:=
 match Bo f dir with
 |none=>true
 |some n=>decide (n.entries.length=0)
def AD(f:AT)(dir:A9)(name:AE):A9×Int:=
 match Bo f dir with
 |none=>((0,0),2)
 |some n=>if n.kind=2 then
     match n.entries.find? (fun e:B1=>decide (e.1=name))with
     |none=>((0,0),2)
     |some e=>((dir.1,e.2),0)
   else((0,0),20)
def Lq(n:Nod)(ino:Int):Bool:=n.entries.any fun e:B1=>e.2==ino
def JJ(d:Dvc)(ino:Int):Int:=
 match d.nodes.find? (fun n:Nod=>n.ino==ino)with
 |none=>0
 |some n=>n.parent
def EM(n:Nod):Bool:=
 if n.kind<1∨3<n.kind∨n.mode<0∨511<n.mode∨n.uid<0∨4294967295<n.uid∨n.gid<0∨4294967295<n.gid then false
 else if n.kind=3 then JH n.target else n.target.toList.isEmpty
end Go.Proofs.YtobclmbkdhbnpaaGreatDoor
namespace Go.Proofs.YtobclmbkdhbnpaaGreatDoor
def DA(a b:AE):Bool:=Op.bytesLess a.toList b.toList
def FL(name:AE)(ino:Int):Bool→List B1→List B1
 |done,[]=>if done then[]else[(name,ino)]
 |done,e::r=>
   (if !done&& !DA e.1 name then[(name,ino)]else[])++((if e.1=name then[]else[e])++FL name ino (done|| !DA e.1 name) r)
def CU(es:List B1)(name:AE)(ino:Int):List B1:=FL name ino (ino==0) es
def Cg(ino:Int)(es:List B1):Nat:=es.countP fun e:B1=>e.2==ino
def Bg(ino:Int)(ns:List Nod):Nat:=Cg ino (ns.flatMap fun n=>n.entries)
def F6(f:AT)(at_:A9):Nat:=
 match Bo f at_,FK f at_.1 with
 |some _,some d=>Bg at_.2 d.nodes
 |_,_=>0
theorem Nd{ino:Int}{es:List B1}{k:Nat}{e:B1}(h:es[k]?=some e):Cg ino (es.take (k+1))=Cg ino (es.take k)+(if e.2==ino then 1 else 0):=by
 unfold Cg;rw[List.take_add_one,h,List.countP_append];simp[List.countP_cons]
theorem XB(ino:Int)(es:List B1):Cg ino es≤es.length:=List.countP_le_length
theorem XC{ino:Int}{ns:List Nod}{m:Nat}{n:Nod}(h:ns[m]?=some n):Bg ino (ns.take (m+1))=Bg ino (ns.take m)+Cg ino n.entries:=by
 unfold Bg Cg;rw[List.take_add_one,h,List.flatMap_append,List.countP_append];simp
def Ch(ino:Int)(ns:List Nod):List Nod:=ns.filter fun n=>n.ino != ino
def Nf:Nod:=⟨1,2,493,0,0,1,⟨#[]⟩,[]⟩
def Kb:Dvc:=⟨2,[Nf]⟩
def EY(n:Int):AT×Int:=if n<1∨3<n then([],50)else(List.replicate n.toNat Kb,0)
abbrev Dl:=AT×List Bp×Int
def EN(n:Nod)(next dirIno:Int):Nod:=⟨next,n.kind,n.mode,n.uid,n.gid,if n.kind=2 then dirIno else 0,n.target,[]⟩
end Go.Proofs.YtobclmbkdhbnpaaGreatDoor
namespace Go.Proofs.YtobclmbkdhbnpaaGreatDoor
open Go.RowKit
theorem CF{α:Type}(enc:α→List AV){l:List α}{k:Nat}(h:(k:Int)<((l.map enc).length:Int)):k<l.length∧∃x,l[k]?=some x∧(l.map enc)[k]?=some (enc x)∧(l.take (k+1)).map enc=(l.take k).map enc++[enc x]:=by
 have hk:k<l.length:=by simpa using h
 refine⟨hk,l[k],BM hk,by simp[hk],?_⟩;rw[List.take_succ_eq_append_getElem hk,List.map_append];rfl
theorem Cx{α:Type}(enc:α→List AV){l:List α}{k:Nat}(hk:k≤l.length)(h:¬(k:Int)<((l.map enc).length:Int)):k=l.length:=by
 simp at h;omega
theorem vb{a b:Bool}(h:a=b):AV.v (.bool a)=AV.v (.bool b):=by rw[h]
theorem vi{k:IntKind}{a b:Int}(h:a=b):AV.v (.int k a)=AV.v (.int k b):=by rw[h]
def AB(x:A9):List AV:=[.v (.int .i64 x.1), .v (.int .i64 x.2)]
def C7(e:B1):List AV:=[.v (.string e.1), .v (.int .i64 e.2)]
def Ab(n:Nod):List AV:=[.v (.int .i64 n.ino), .v (.int .i64 n.kind), .v (.int .i64 n.mode), .v (.int .i64 n.uid), .v (.int .i64 n.gid), .v (.int .i64 n.parent), .v (.string n.target), .sl 2 (n.entries.map C7) none]
def Be(d:Dvc):List AV:=[.v (.int .i64 d.next), .sl 8 (d.nodes.map Ab) none]
def Al(f:AT):List AV:=[.sl 2 (f.map Be) none]
structure FlsB(f:AT):Prop where
 few:f.length≤1000
 nodes:∀d∈f,d.nodes.length≤1000
 ents:∀d∈f,∀n∈d.nodes,n.entries.length≤1000
theorem PV{f:AT}{a:A9}{k:Nat}{d:Dvc}(hk:a.1=(k:Int))(hd:f[k]?=some d):EX f a=Jt (fun n:Nod=>n.ino==a.2) d.nodes:=by
 unfold EX;rw[hk,Hg,hd]
def AZ(f:AT)(a:A9):Nod:=(Bo f a).getD Nod.zero
def Cc(f:AT)(a:A9):Bool:=(Bo f a).isSome
theorem G7(f:AT)(a:A9):Ag f a=(Cc f a&&decide ((AZ f a).kind=2)):=by
 unfold Ag Cc AZ;cases Bo f a<;>simp[P4]
theorem Kc{f:AT}(hf:FlsB f)(a:A9):(AZ f a).entries.length≤1000:=by
 rcases Gu f a with⟨-,h⟩|⟨k,i,d,n, -,h1,h2, -, -,h⟩
 ·simp[AZ,h,Nod.zero]
 simp only[AZ,h,Option.getD_some];exact hf.ents d (Aj h1) n (Aj h2)
section
theorem Gv(f:AT)(a:A9)(hf:FlsB f):AFn prog 39 [.agg (Al f), .agg (AB a)] (fun r=>r= .v (.int .i64 (EX f a))):=by
 refine enter Tryz.func39 rfl rfl rfl rfl rfl 0 rfl ?_;refine w_ (b_ (h:=b_ (h:=a_ (h:=e_ (q_ (w_ (f_ (h:=l_ (h:=BO (h:=m_ (h:=?_)))))))))));refine As false rfl rfl (fun hb1=>?_) (fun hb1=>?_)
 ·have hc1:=bp hb1;refine A3 (h:=A3 (h:=A3 (h:=A3 (h:=A3 (h:=A3 (h:=AU (h:=e_ (BQ (h:=w_ (a_ (h:=e_ (A6 (A4 (?_))))))))))))));refine AA ?_;exact vi (by unfold EX;rw[Nc (.inl hc1)])
 have hc1:=bp hb1;refine f_ (h:=l_ (h:=f_ (h:=l_ (h:=n_ (h:=G6 (h:=Ah (h:=e_ (?_))))))));refine A8 rfl (fun hb2=>?_) (fun hb2=>?_)
 ·have hc2:=bp hb2;refine w_ (a_ (h:=e_ (A6 (A4 (?_)))));refine AA ?_;exact vi (by unfold EX;rw[Nc (.inr (by rw[List.length_map]at hc2;exact hc2))])
 have hc2:=bp hb2;obtain⟨k,hk⟩:=Int.eq_ofNat_of_zero_le (show 0≤a.1 by omega);rw[hk]at hc2;obtain⟨-,d,hd,hrow, -⟩:=CF Be (l:=f) (k:=k) (by omega);have hdn:=hf.nodes d (Aj hd);refine AN (w_ (f_ (h:=l_ (h:=f_ (h:=l_ (h:=?_))))));refine A7 rfl (CM (n:=k) rfl rfl hk hrow ?_);refine f_ (h:=l_ (h:=a_ (h:=e_ (q_ (w_ (a_ (h:=e_ (Ao (?_)))))))));refine Bm (fun m s=>∃j:Nat,j≤d.nodes.length∧m=d.nodes.length - j∧(∀i y,i<j→d.nodes[i]?=some y→(y.ino==a.2)=false)∧s=⟨look [(3, .bp 1 0),(5, .sl 8 (d.nodes.map Ab) none),(6, .v (.int .i64 (j:Int)))],⟨[Al f,AB a],[]⟩⟩) (d.nodes.length) ((wk 2 0)) (⟨0,by omega,rfl,fun i y hi=>by omega,rfl⟩) ?_;rintro m s ⟨j,hj,rfl,ha,rfl⟩;refine q_ (w_ (m_ (h:=m_ (h:=n_ (h:=BO (h:=e_ (?_)))))));refine A8 rfl (fun hb3=>?_) (fun hb3=>?_)
 ·have hc3:=bp hb3;obtain⟨hlt,n,hy,hrow2, -⟩:=CF Ab hc3;refine AN (q_ (Ao (q_ (Dk 8 (h:=AP 0 (h:=AP 1 (h:=Dr 2 (h:=AQ 3 (h:=AF 4 (h:=AQ 5 (h:=AF 6 (h:=GL 7 (h:=z_ (h:=t_ (?_)))))))))))))));refine A8 rfl (fun hb4=>?_) (fun hb4=>?_)
  ·have hc4:=bp hb4;refine w_ (m_ (h:=a_ (h:=e_ (A6 (AR (A4 (A4 (AR (A4 (?_))))))))));refine AA ?_;exact vi (by rw[PV hk hd];exact(SX hy (by simpa using hc4) ha).symm)
  have hc4:=bp hb4;refine BA (Au (t_ (AX (m_ (h:=B2 (h:=a_ (h:=AW (?_))))))));refine AJ ?_;refine⟨_,_,?_,⟨j+1,by omega,rfl,EW hy ha (by simpa using hc4),rfl⟩,(wk 2 0)⟩;omega
 have hc3:=bp hb3;have e:=Cx Ab hj hc3;subst e;refine BU (Am (Am (BV (t_ (w_ (a_ (h:=e_ (A6 (?_)))))))));refine AA ?_;exact vi (by rw[PV hk hd];exact(XA (fun i y hi hy=>ha i y hi hy)).symm)
theorem Dm(f:AT)(a:A9)(hf:FlsB f):AFn prog 29 [.agg (Al f), .agg (AB a)] (fun r=>r= .tup [.agg (Ab (AZ f a)), .v (.bool (Cc f a))]):=by
 refine enter Tryz.func29 rfl rfl rfl rfl rfl 0 rfl ?_;refine w_ (b_ (h:=b_ (h:=Af (h:=a_ (h:=e_ (w_ (l_ (h:=l_ (h:=?_)))))))));refine A7 rfl (AK (Gv f a hf) ?_);rintro r rfl;refine a_ (h:=e_ (q_ (w_ (m_ (h:=BO (h:=e_ (?_)))))));refine A8 rfl (fun hb1=>?_) (fun hb1=>?_)
 ·have hc1:=bp hb1
  have e:Bo f a=none:=by
   rcases Gu f a with h|⟨k,i,d,n, -, -, -, -,h, -⟩
   ·exact h.2
   exfalso;omega
  refine w_ (Aa (h:=s_ (h:=a_ (h:=e_ (A6 (A4 (?_)))))));refine B0 (r:= .tup [.agg (Ab (AZ f a)), .v (.bool (Cc f a))]) none (h5:=?_) (h6:=⟨rfl,rfl,rfl⟩);rw[show AZ f a=Nod.zero by simp[AZ,e],show Cc f a=false by simp[Cc,e]];exact(by repeat (first|exact AM _|exact LeA.nil _|exact LeL.refl _|refine LeA.agg ?_|refine LeA.tup ?_|exact LeL.nil|refine LeL.cons ?_ ?_|exact LeA.any _))
 have hc1:=bp hb1;obtain⟨k,i,d,n,g1,g2,g3,g4,g5,g6⟩:=(Gu f a).resolve_left (fun h=>by omega);rw[g5];have hr1:(f.map Be)[k]?=some (Be d):=by rw[List.getElem?_map,g2];rfl
 have hr2:(d.nodes.map Ab)[i]?=some (Ab n):=by rw[List.getElem?_map,g3];rfl
 have hen:=hf.ents d (Aj g2) n (Aj g3);refine AN (w_ (f_ (h:=l_ (h:=f_ (h:=l_ (h:=?_))))));refine A7 rfl (CM (n:=k) rfl rfl g1 hr1 ?_);refine f_ (h:=l_ (h:=m_ (h:=?_)));refine A7 rfl (CM (n:=i) rfl rfl rfl hr2 ?_);refine l_ (h:=Af (h:=s_ (h:=e_ (w_ (f_ (h:=l_ (h:=?_)))))))
 first|refine A7 rfl (Eo rfl rfl rfl (by simp;omega) (by repeat constructor) ?_)|refine A7 rfl (Ep rfl rfl (by simp;omega) (by repeat constructor) ?_)
 refine f_ (h:=s_ (h:=e_ (w_ (l_ (h:=s_ (h:=a_ (h:=e_ (A6 (?_)))))))));refine AA ?_;rw[show AZ f a=n by simp[AZ,g6],show Cc f a=true by simp[Cc,g6]];rfl
theorem Fi(f:AT)(a:A9)(hf:FlsB f):AFn prog 15 [.agg (Al f), .agg (AB a)] (fun r=>r= .v (.bool (Ag f a))):=by
 refine enter Tryz.func15 rfl rfl rfl rfl rfl 0 rfl ?_;refine w_ (b_ (h:=b_ (h:=a_ (h:=e_ (w_ (l_ (h:=l_ (h:=?_))))))));refine A7 rfl (AK (Dm f a hf) ?_);rintro r rfl;refine m_ (h:=x_ (h:=x_ (h:=Af (h:=s_ (h:=a_ (h:=e_ (w_ (m_ (h:=m_ (h:=?_))))))))));refine As true rfl rfl (fun hb1=>?_) (fun hb1=>?_)
 ·have hc1:=bp hb1;refine f_ (h:=l_ (h:=Ac (h:=AU (h:=a_ (h:=e_ (A6 (?_)))))));refine AA ?_;exact vb (by rw[G7];simp[*])
 have hc1:=bp hb1;refine A3 (h:=A3 (h:=A3 (h:=Ah (h:=a_ (h:=e_ (A6 (?_)))))));refine AA ?_;exact vb (by rw[G7];simp[*])
end
theorem GM{α:Type}{p:α→Bool}{l:List α}{j:Nat}{x:α}(hx:l[j]?=some x)(hp:p x=true)(h:∀i y,i<j→l[i]?=some y→p y=false):l.find? p=some x:=by
 have:=SW hx hp h;rw[←SY,this]
 simpa using hx
theorem GN{α:Type}{p:α→Bool}{l:List α}(h:∀i y,i<l.length→l[i]?=some y→p y=false):l.find? p=none:=by
 rw[List.find?_eq_none];intro x hx;obtain⟨i,hi,rfl⟩:=List.mem_iff_getElem.1 hx;simp[h i _ hi (BM hi)]
theorem Sb{f:AT}{a:A9}(h:Cc f a=true):Bo f a=some (AZ f a):=by
 unfold Cc at h;unfold AZ
 cases hn:Bo f a with
 |none=>rw[hn]at h;cases h
 |some n=>rfl
theorem Sc{f:AT}{a:A9}(h:Cc f a=false):Bo f a=none:=by
 unfold Cc at h
 cases hn:Bo f a with
 |none=>rfl
 |some n=>rw[hn]at h;cases h
section
theorem GO(f:AT)(a:A9)(name:AE)(hf:FlsB f):AFn prog 10 [.agg (Al f), .agg (AB a), .v (.string name)] (fun r=>r= .tup [.agg (AB (AD f a name).1), .v (.int .i64 (AD f a name).2)]):=by
 have hen:=Kc hf a;refine enter Tryz.func10 rfl rfl rfl rfl rfl 0 rfl ?_;refine w_ (b_ (h:=b_ (h:=Af (h:=a_ (h:=e_ (w_ (l_ (h:=l_ (h:=?_)))))))));refine A7 rfl (AK (Dm f a hf) ?_);rintro r rfl;refine m_ (h:=x_ (h:=x_ (h:=Af (h:=s_ (h:=a_ (h:=e_ (q_ (w_ (m_ (h:=BZ (h:=e_ (?_))))))))))));refine A8 rfl (fun hb1=>?_) (fun hb1=>?_)
 ·have hc1:=bp hb1;have e:=Sc hc1;refine w_ (Aa (h:=s_ (h:=a_ (h:=e_ (A6 (A4 (?_)))))));refine AA ?_;rw[show AD f a name=((0,0),2) by simp[AD,e]];rfl
 have hc1:=bp hb1;have e:=Sb hc1;refine AN (q_ (w_ (f_ (h:=l_ (h:=BX (h:=e_ (?_)))))));refine A8 rfl (fun hb2=>?_) (fun hb2=>?_)
 ·have hc2:=bp hb2;refine w_ (Aa (h:=s_ (h:=a_ (h:=e_ (A6 (A4 (?_)))))));refine AA ?_;rw[show AD f a name=((0,0),20) by simp[AD,e,hc2]];rfl
 have hc2:=bp hb2;refine AN (q_ (w_ (a_ (h:=e_ (Ao (?_))))));refine Bm (fun m s=>∃j:Nat,j≤(AZ f a).entries.length∧m=(AZ f a).entries.length - j∧(∀i y,i<j→(AZ f a).entries[i]?=some y→decide (y.1=name)=false)∧s=⟨look [(2, .v (.string name)),(4, .bp 1 0),(6, .bp 2 0),(8, .bp 3 0),(10, .v (.int .i64 (j:Int)))],⟨[Al f,AB a,[.v (.int .i64 0), .v (.int .i64 0)],Ab (AZ f a)],[]⟩⟩) ((AZ f a).entries.length) ((wk 4 0)) (⟨0,by omega,rfl,fun i y hi=>by omega,rfl⟩) ?_;rintro m s ⟨j,hj,rfl,ha,rfl⟩;refine q_ (w_ (m_ (h:=f_ (h:=l_ (h:=n_ (h:=BO (h:=e_ (?_))))))));refine A8 rfl (fun hb3=>?_) (fun hb3=>?_)
 ·have hc3:=bp hb3;obtain⟨hlt,x,hy,hrow, -⟩:=CF C7 hc3;refine AN (q_ (Ao (w_ (f_ (h:=l_ (h:=m_ (h:=i_ (h:=f_ (h:=l_ (h:=m_ (h:=Ac (h:=e_ (?_)))))))))))));refine A8 rfl (fun hb4=>?_) (fun hb4=>?_)
  ·have hc4:=bp hb4;refine q_ (Bi ([(0,Al f),(1,AB a),(3,Ab (AZ f a))]) 11 (h:=AQ 0 (h:=AF 1 (h:=AQ 2 (h:=AF 3 (h:=AP 4 (h:=Dr 5 (h:=AQ 6 (h:=AF 7 (h:=Fh 8 (h:=?_)))))))))));refine B8 9 rfl (B3 rfl rfl rfl rfl rfl rfl (by repeat constructor) (by repeat constructor) ?_);refine o_ (h:=BN 10 (h:=z_ (h:=t_ (A6 (AR (A4 (A4 (AR (A4 (?_))))))))));refine AA ?_;rw[show AD f a name=((a.1,x.2),0) by simp only[AD,e];rw[if_pos (by omega),GM hy (by simpa using hc4) ha]];rfl
  have hc4:=bp hb4;refine BA (Au (t_ (AX (m_ (h:=B2 (h:=a_ (h:=AW (?_))))))));refine AJ ?_;refine⟨_,_,?_,⟨j+1,by omega,rfl,EW hy ha (by simpa using hc4),rfl⟩,(wk 4 0)⟩;omega
 have hc3:=bp hb3;have e3:=Cx C7 hj hc3;subst e3;refine BU (Am (Am (BV (t_ (w_ (Aa (h:=s_ (h:=a_ (h:=e_ (A6 (?_)))))))))));refine AA ?_;rw[show AD f a name=((0,0),2) by simp only[AD,e];rw[if_pos (by omega),GN ha]];rfl
end
theorem Hk{P:Program}{ev:Operand→Option AV}{h:AH}{R:AV→AH→Prop}{d:Option Tmp}{ty:TypeId}{pos:String}{af:Array Edge}{gd:Option (Nat×Bool)}{T:TypeId}{x ix:Operand}{s:ByteArray}{n:Nat}{k:IntKind}{i:Int}(hu:P.underlying T=some .string)
    (hx:ev x=some (.v (.string s))) (hi:ev ix=some (.v (.int k i))) (hn:i=(n:Int)) (hlt:n<s.size) (hR:R (.v (.int .u8 (s[n].toNat:Int))) h):AStep P ⟨d, .index T x ix,ty,pos,af,gd⟩ ev h R:=by
 refine Cv (fun _ G w ec _ he=>?_) hR;have h1:=he x (by simp[Op.operands]) _ hx;have h2:=he ix (by simp[Op.operands]) _ hi;simp only[rep]at h1 h2;subst hn;refine⟨.int .u8 (s[n].toNat:Int),?_,by simp only[rep]⟩;have e:s[n]?=some s[n]:=getElem?_pos s n hlt;simp[execOp,h1,h2,Instr.index,asIntOf,run_underlying hu,e]
theorem JK(s:AE):D4 s=if s.size<1∨12<s.size then false else if s=⟨#[46]⟩then false else if s=⟨#[46,46]⟩then false else s.data.toList.all Hh:=by
 unfold D4;have e1:=Lp s ⟨#[46]⟩;have e2:=Lp s ⟨#[46,46]⟩;rw[show(⟨#[46]⟩:ByteArray).toList=[46] by rw[ByteArray.toList_eq]]at e1;rw[show(⟨#[46,46]⟩:ByteArray).toList=[46,46] by rw[ByteArray.toList_eq]]at e2;rw[e1,e2];simp only[decide_eq_true_eq]
theorem XD{c:UInt8}(h1:¬(c.toNat:Int)=0)(h2:¬(c.toNat:Int)=47):Hh c=true:=by
 unfold Hh;simp;omega
section
theorem Ng(s:AE)(hs:s.size≤100000):AFn prog 65 [.v (.string s)] (fun r=>r= .v (.bool (D4 s))):=by
 refine enter Tryz.func65 rfl rfl rfl rfl rfl 0 rfl ?_;refine w_ (a_ (h:=e_ (q_ (w_ (m_ (h:=n_ (h:=BO (h:=m_ (h:=?_)))))))));refine As false rfl rfl (fun hb1=>?_) (fun hb1=>?_)
 ·have hc1:=bp hb1;refine A3 (h:=A3 (h:=A3 (h:=AU (h:=m_ (h:=A3 (h:=A3 (h:=AU (h:=m_ (h:=A3 (h:=A3 (h:=AU (h:=e_ (BQ (h:=w_ (a_ (h:=e_ (A6 (A4 (?_)))))))))))))))))));refine AA ?_;exact vb (by rw[JK,if_pos (by omega)])
 have hc1:=bp hb1;refine m_ (h:=n_ (h:=CS (h:=Ah (h:=m_ (h:=?_)))));refine As false rfl rfl (fun hb2=>?_) (fun hb2=>?_)
 ·have hc2:=bp hb2;refine A3 (h:=A3 (h:=AU (h:=m_ (h:=A3 (h:=A3 (h:=AU (h:=e_ (BQ (h:=w_ (a_ (h:=e_ (A6 (A4 (?_))))))))))))));refine AA ?_;exact vb (by rw[JK,if_pos (by omega)])
 have hc2:=bp hb2;refine m_ (h:=Ac (h:=Ah (h:=m_ (h:=?_))));refine As false rfl rfl (fun hb3=>?_) (fun hb3=>?_)
 ·have hc3:=bp hb3;refine A3 (h:=A3 (h:=AU (h:=e_ (BQ (h:=w_ (a_ (h:=e_ (A6 (A4 (?_))))))))));refine AA ?_;exact vb (by rw[JK,if_neg (by omega),if_pos hc3])
 have hc3:=bp hb3;refine m_ (h:=Ac (h:=Ah (h:=e_ (?_))));refine A8 rfl (fun hb4=>?_) (fun hb4=>?_)
 ·have hc4:=bp hb4;refine w_ (a_ (h:=e_ (A6 (A4 (?_)))));refine AA ?_;exact vb (by rw[JK,if_neg (by omega),if_neg hc3,if_pos hc4])
 have hc4:=bp hb4;refine AN (q_ (w_ (a_ (h:=e_ (Ao (?_))))));refine Bm (fun m t=>∃j:Nat,j≤s.size∧m=s.size - j∧(∀i (hi:i<s.size),i<j→Hh s[i]=true)∧t=⟨look [(0, .v (.string s)),(3, .v (.int .i64 (j:Int)))],⟨[],[]⟩⟩) (s.size) ((wk 0 0)) (⟨0,by omega,rfl,fun i _ hi=>by omega,rfl⟩) ?_;rintro m t ⟨j,hj,rfl,ha,rfl⟩;refine q_ (w_ (m_ (h:=m_ (h:=n_ (h:=BO (h:=e_ (?_)))))));refine A8 rfl (fun hb5=>?_) (fun hb5=>?_)
 ·have hc5:=bp hb5;have hlt:j<s.size:=by omega
  refine AN (q_ (Ao (w_ (m_ (h:=m_ (h:=?_))))));refine A7 rfl (Hk (n:=j) Tryz.underlying9 rfl rfl rfl hlt ?_);refine Ac (h:=m_ (h:=?_));refine As false rfl rfl (fun hb6=>?_) (fun hb6=>?_)
  ·have hc6:=bp hb6;refine A3 (h:=A3 (h:=A3 (h:=A3 (h:=AU (h:=e_ (BQ (h:=w_ (a_ (h:=e_ (A6 (AR (A4 (A4 (AR (A4 (?_))))))))))))))));refine AA ?_;exact vb (by rw[JK,if_neg (by omega),if_neg hc3,if_neg hc4,PU hlt (by unfold Hh;simp[hc6])])
  have hc6:=bp hb6;refine m_ (h:=m_ (h:=?_));refine Aw (Hk (n:=j) Tryz.underlying9 rfl rfl rfl hlt ?_);refine Ac (h:=Ah (h:=e_ (?_)));refine A8 rfl (fun hb7=>?_) (fun hb7=>?_)
  ·have hc7:=bp hb7;refine w_ (a_ (h:=e_ (A6 (AR (A4 (A4 (AR (A4 (?_)))))))));refine AA ?_;exact vb (by rw[JK,if_neg (by omega),if_neg hc3,if_neg hc4,PU hlt (by unfold Hh;simp[hc7])])
  have hc7:=bp hb7;refine BA (Au (t_ (AX (m_ (h:=B2 (h:=a_ (h:=AW (?_))))))));refine AJ ?_;refine⟨_,_,?_,⟨j+1,by omega,rfl,Sa hlt ha (XD hc6 hc7),rfl⟩,(wk 0 0)⟩;omega
 have hc5:=bp hb5;obtain rfl:j=s.size:=by omega
 refine BU (Am (Am (BV (t_ (w_ (a_ (h:=e_ (A6 (?_)))))))));refine AA ?_;exact vb (by rw[JK,if_neg (by omega),if_neg hc3,if_neg hc4,SZ (fun i hi=>ha i hi hi)])
end
theorem XE(f:AT)(a:A9):Hi f a=decide (12≤(AZ f a).entries.length):=by
 unfold Hi AZ;cases Bo f a<;>simp[Nod.zero]
theorem XF(f:AT)(a:A9):Hj f a=decide ((AZ f a).entries.length=0):=by
 unfold Hj AZ;cases Bo f a<;>simp[Nod.zero]
theorem Sd{f:AT}{a:A9}{k:Nat}{d:Dvc}{n:Nod}(hk:a.1=(k:Int))(hd:f[k]?=some d)(hn:Bo f a=some n):F6 f a=Bg a.2 d.nodes:=by
 unfold F6;rw[hn,hk,Hg,hd]
section
theorem XG(s:AE)(hs:s.size≤100000):AFn prog 74 [.v (.string s)] (fun r=>r= .v (.bool (JH s))):=by
 refine enter Tryz.func74 rfl rfl rfl rfl rfl 0 rfl ?_;refine w_ (a_ (h:=e_ (q_ (w_ (a_ (h:=e_ (Ao (?_))))))));refine Bm (fun m t=>∃j:Nat,j≤s.size∧m=s.size - j∧(∀i (hi:i<s.size),i<j→(!((s[i].toNat:Int)==0))=true)∧t=⟨look [(0, .v (.string s)),(3, .v (.int .i64 (j:Int)))],⟨[],[]⟩⟩) (s.size) ((wk 0 0)) (⟨0,by omega,rfl,fun i _ hi=>by omega,rfl⟩) ?_;rintro m t ⟨j,hj,rfl,ha,rfl⟩;refine q_ (w_ (m_ (h:=m_ (h:=n_ (h:=BO (h:=e_ (?_)))))));refine A8 rfl (fun hb1=>?_) (fun hb1=>?_)
 ·have hc1:=bp hb1;have hlt:j<s.size:=by omega
  refine AN (q_ (Ao (w_ (m_ (h:=m_ (h:=?_))))));refine A7 rfl (Hk (n:=j) Tryz.underlying9 rfl rfl rfl hlt ?_);refine Ac (h:=e_ (?_));refine A8 rfl (fun hb2=>?_) (fun hb2=>?_)
  ·have hc2:=bp hb2;refine w_ (a_ (h:=e_ (A6 (AR (A4 (A4 (AR (A4 (?_)))))))));refine AA ?_;exact vb (by unfold JH;rw[PU hlt (by simp[hc2])];simp)
  have hc2:=bp hb2;refine BA (Au (t_ (AX (m_ (h:=B2 (h:=a_ (h:=AW (?_))))))));refine AJ ?_;refine⟨_,_,?_,⟨j+1,by omega,rfl,Sa (p:=fun c=> !((c.toNat:Int)==0)) hlt ha (by simpa using hc2),rfl⟩,(wk 0 0)⟩;omega
 have hc1:=bp hb1;obtain rfl:j=s.size:=by omega
 have hal:=SZ (p:=fun c=> !((c.toNat:Int)==0)) (fun i hi=>ha i hi hi);refine BU (Am (Am (BV (t_ (w_ (m_ (h:=n_ (h:=G6 (h:=m_ (h:=?_))))))))));refine As true rfl rfl (fun hb3=>?_) (fun hb3=>?_)
 ·have hc3:=bp hb3;refine m_ (h:=n_ (h:=Lo (h:=AU (h:=a_ (h:=e_ (A6 (?_)))))));refine AA ?_;exact vb (by unfold JH;rw[hal,Bool.eq_iff_iff];simp;omega)
 have hc3:=bp hb3;refine A3 (h:=A3 (h:=A3 (h:=Ah (h:=a_ (h:=e_ (A6 (?_)))))));refine AA ?_;exact vb (by unfold JH;rw[hal,Bool.eq_iff_iff];simp;omega)
theorem Kd(f:AT)(a:A9)(name:AE)(hf:FlsB f)(hs:name.size≤100000):AFn prog 32 [.agg (Al f), .agg (AB a), .v (.string name)] (fun r=>r= .v (.int .i64 (C6 f a name))):=by
 refine enter Tryz.func32 rfl rfl rfl rfl rfl 0 rfl ?_;refine w_ (b_ (h:=b_ (h:=a_ (h:=e_ (w_ (l_ (h:=l_ (h:=?_))))))));refine A7 rfl (AK (Dm f a hf) ?_);rintro r rfl;refine m_ (h:=x_ (h:=x_ (h:=Af (h:=s_ (h:=a_ (h:=e_ (q_ (w_ (m_ (h:=BZ (h:=e_ (?_))))))))))));refine A8 rfl (fun hb1=>?_) (fun hb1=>?_)
 ·have hc1:=bp hb1;have e:=Sc hc1;refine w_ (a_ (h:=e_ (A6 (A4 (?_)))));refine AA ?_;exact vi (by simp[C6,e])
 have hc1:=bp hb1;have e:=Sb hc1;refine AN (q_ (w_ (f_ (h:=l_ (h:=BX (h:=e_ (?_)))))));refine A8 rfl (fun hb2=>?_) (fun hb2=>?_)
 ·have hc2:=bp hb2;refine w_ (a_ (h:=e_ (A6 (A4 (?_)))));refine AA ?_;exact vi (by simp[C6,e,hc2])
 have hc2:=bp hb2;refine AN (q_ (w_ (m_ (h:=?_))));refine A7 rfl (AK (Ng name hs) ?_);rintro r rfl;refine BZ (h:=e_ (?_));refine A8 rfl (fun hb3=>?_) (fun hb3=>?_)
 ·have hc3:=bp hb3;refine w_ (a_ (h:=e_ (A6 (A4 (?_)))));refine AA ?_;exact vi (by simp only[C6,e];rw[if_pos (by omega),hc3];rfl)
 have hc3:=bp hb3;refine AN (w_ (a_ (h:=e_ (A6 (?_)))));refine AA ?_;exact vi (by simp only[C6,e];rw[if_pos (by omega),hc3];rfl)
theorem PW(f:AT)(a:A9)(hf:FlsB f):AFn prog 36 [.agg (Al f), .agg (AB a)] (fun r=>r= .v (.bool (Hi f a))):=by
 refine enter Tryz.func36 rfl rfl rfl rfl rfl 0 rfl ?_;refine w_ (b_ (h:=b_ (h:=a_ (h:=e_ (w_ (l_ (h:=l_ (h:=?_))))))));refine A7 rfl (AK (Dm f a hf) ?_);rintro r rfl;refine m_ (h:=x_ (h:=x_ (h:=Af (h:=s_ (h:=a_ (h:=e_ (w_ (f_ (h:=l_ (h:=n_ (h:=G6 (h:=a_ (h:=e_ (A6 (?_)))))))))))))));refine AA ?_;exact vb (by rw[XE,Bool.eq_iff_iff];simp;omega)
theorem Se(f:AT)(a:A9)(hf:FlsB f):AFn prog 35 [.agg (Al f), .agg (AB a)] (fun r=>r= .v (.bool (Hj f a))):=by
 refine enter Tryz.func35 rfl rfl rfl rfl rfl 0 rfl ?_;refine w_ (b_ (h:=b_ (h:=a_ (h:=e_ (w_ (l_ (h:=l_ (h:=?_))))))));refine A7 rfl (AK (Dm f a hf) ?_);rintro r rfl;refine m_ (h:=x_ (h:=x_ (h:=Af (h:=s_ (h:=a_ (h:=e_ (w_ (f_ (h:=l_ (h:=n_ (h:=Ac (h:=a_ (h:=e_ (A6 (?_)))))))))))))));refine AA ?_;exact vb (by rw[XF,Bool.eq_iff_iff];simp)
theorem Nh(n:Nod)(hs:n.target.size≤100000):AFn prog 51 [.agg (Ab n)] (fun r=>r= .v (.bool (EM n))):=by
 have ee:n.target.toList.isEmpty=decide (n.target=⟨#[]⟩):=by
  rw[←Lp n.target ⟨#[]⟩,show(⟨#[]⟩:ByteArray).toList=[] by rw[ByteArray.toList_eq]];cases n.target.toList<;>rfl
 refine enter Tryz.func51 rfl rfl rfl rfl rfl 0 rfl ?_;refine w_ (b_ (h:=a_ (h:=e_ (q_ (?_)))));refine JC (⟨look [(1, .bp 0 0),(40, .v (.bool (decide (n.kind<1∨3<n.kind∨n.mode<0∨511<n.mode∨n.uid<0∨4294967295<n.uid∨n.gid<0∨4294967295<n.gid))))],⟨[Ab n],[]⟩⟩) ?_ ?_
 ·skip
  refine AX (f_ (h:=l_ (h:=BO (h:=m_ (h:=?_)))));refine As false rfl rfl (fun hb1=>?_) (fun hb1=>?_)
  ·have hc1:=bp hb1;refine A3 (h:=A3 (h:=A3 (h:=AU (h:=m_ (h:=A3 (h:=A3 (h:=A3 (h:=AU (h:=m_ (h:=A3 (h:=A3 (h:=A3 (h:=AU (h:=m_ (h:=A3 (h:=A3 (h:=A3 (h:=AU (h:=m_ (h:=A3 (h:=A3 (h:=A3 (h:=AU (h:=?_))))))))))))))))))))))));refine m_ (h:=A3 (h:=A3 (h:=A3 (h:=AU (h:=m_ (h:=A3 (h:=A3 (h:=A3 (h:=AU (h:=AW (?_)))))))))));refine AJ ?_
   first|(exfalso;first|contradiction|omega)|exact B7 1 0 rfl rfl rfl rfl (by repeat (first|exact Sub.nil|refine B9 rfl rfl ?_|refine BC ?_|refine BD rfl ?_|refine BE rfl ?_|(apply Sub.of;(focus exact rfl);(focus exact LeA.of_eq (vb (by rw[Bool.eq_iff_iff];simp;try omega)));(focus exact rfl))))
  have hc1:=bp hb1;refine f_ (h:=l_ (h:=CS (h:=Ah (h:=m_ (h:=?_)))));refine As false rfl rfl (fun hb2=>?_) (fun hb2=>?_)
  ·have hc2:=bp hb2;refine A3 (h:=A3 (h:=A3 (h:=AU (h:=m_ (h:=A3 (h:=A3 (h:=A3 (h:=AU (h:=m_ (h:=A3 (h:=A3 (h:=A3 (h:=AU (h:=m_ (h:=A3 (h:=A3 (h:=A3 (h:=AU (h:=m_ (h:=A3 (h:=A3 (h:=A3 (h:=AU (h:=?_))))))))))))))))))))))));refine m_ (h:=A3 (h:=A3 (h:=A3 (h:=AU (h:=AW (?_))))));refine AJ ?_
   first|(exfalso;first|contradiction|omega)|exact B7 1 0 rfl rfl rfl rfl (by repeat (first|exact Sub.nil|refine B9 rfl rfl ?_|refine BC ?_|refine BD rfl ?_|refine BE rfl ?_|(apply Sub.of;(focus exact rfl);(focus exact LeA.of_eq (vb (by rw[Bool.eq_iff_iff];simp;try omega)));(focus exact rfl))))
  have hc2:=bp hb2;refine f_ (h:=l_ (h:=BO (h:=Ah (h:=m_ (h:=?_)))));refine As false rfl rfl (fun hb3=>?_) (fun hb3=>?_)
  ·have hc3:=bp hb3;refine A3 (h:=A3 (h:=A3 (h:=AU (h:=m_ (h:=A3 (h:=A3 (h:=A3 (h:=AU (h:=m_ (h:=A3 (h:=A3 (h:=A3 (h:=AU (h:=m_ (h:=A3 (h:=A3 (h:=A3 (h:=AU (h:=m_ (h:=A3 (h:=A3 (h:=A3 (h:=AU (h:=?_))))))))))))))))))))))));refine AW (?_);refine AJ ?_
   first|(exfalso;first|contradiction|omega)|exact B7 1 0 rfl rfl rfl rfl (by repeat (first|exact Sub.nil|refine B9 rfl rfl ?_|refine BC ?_|refine BD rfl ?_|refine BE rfl ?_|(apply Sub.of;(focus exact rfl);(focus exact LeA.of_eq (vb (by rw[Bool.eq_iff_iff];simp;try omega)));(focus exact rfl))))
  have hc3:=bp hb3;refine f_ (h:=l_ (h:=CS (h:=Ah (h:=m_ (h:=?_)))));refine As false rfl rfl (fun hb4=>?_) (fun hb4=>?_)
  ·have hc4:=bp hb4;refine A3 (h:=A3 (h:=A3 (h:=AU (h:=m_ (h:=A3 (h:=A3 (h:=A3 (h:=AU (h:=m_ (h:=A3 (h:=A3 (h:=A3 (h:=AU (h:=m_ (h:=A3 (h:=A3 (h:=A3 (h:=AU (h:=AW (?_))))))))))))))))))));refine AJ ?_
   first|(exfalso;first|contradiction|omega)|exact B7 1 0 rfl rfl rfl rfl (by repeat (first|exact Sub.nil|refine B9 rfl rfl ?_|refine BC ?_|refine BD rfl ?_|refine BE rfl ?_|(apply Sub.of;(focus exact rfl);(focus exact LeA.of_eq (vb (by rw[Bool.eq_iff_iff];simp;try omega)));(focus exact rfl))))
  have hc4:=bp hb4;refine f_ (h:=l_ (h:=BO (h:=Ah (h:=m_ (h:=?_)))));refine As false rfl rfl (fun hb5=>?_) (fun hb5=>?_)
  ·have hc5:=bp hb5;refine A3 (h:=A3 (h:=A3 (h:=AU (h:=m_ (h:=A3 (h:=A3 (h:=A3 (h:=AU (h:=m_ (h:=A3 (h:=A3 (h:=A3 (h:=AU (h:=AW (?_)))))))))))))));refine AJ ?_
   first|(exfalso;first|contradiction|omega)|exact B7 1 0 rfl rfl rfl rfl (by repeat (first|exact Sub.nil|refine B9 rfl rfl ?_|refine BC ?_|refine BD rfl ?_|refine BE rfl ?_|(apply Sub.of;(focus exact rfl);(focus exact LeA.of_eq (vb (by rw[Bool.eq_iff_iff];simp;try omega)));(focus exact rfl))))
  have hc5:=bp hb5;refine f_ (h:=l_ (h:=CS (h:=Ah (h:=m_ (h:=?_)))));refine As false rfl rfl (fun hb6=>?_) (fun hb6=>?_)
  ·have hc6:=bp hb6;refine A3 (h:=A3 (h:=A3 (h:=AU (h:=m_ (h:=A3 (h:=A3 (h:=A3 (h:=AU (h:=AW (?_))))))))));refine AJ ?_
   first|(exfalso;first|contradiction|omega)|exact B7 1 0 rfl rfl rfl rfl (by repeat (first|exact Sub.nil|refine B9 rfl rfl ?_|refine BC ?_|refine BD rfl ?_|refine BE rfl ?_|(apply Sub.of;(focus exact rfl);(focus exact LeA.of_eq (vb (by rw[Bool.eq_iff_iff];simp;try omega)));(focus exact rfl))))
  have hc6:=bp hb6;refine f_ (h:=l_ (h:=BO (h:=Ah (h:=m_ (h:=?_)))));refine As false rfl rfl (fun hb7=>?_) (fun hb7=>?_)
  ·have hc7:=bp hb7;refine A3 (h:=A3 (h:=A3 (h:=AU (h:=AW (?_)))));refine AJ ?_
   first|(exfalso;first|contradiction|omega)|exact B7 1 0 rfl rfl rfl rfl (by repeat (first|exact Sub.nil|refine B9 rfl rfl ?_|refine BC ?_|refine BD rfl ?_|refine BE rfl ?_|(apply Sub.of;(focus exact rfl);(focus exact LeA.of_eq (vb (by rw[Bool.eq_iff_iff];simp;try omega)));(focus exact rfl))))
  have hc7:=bp hb7;refine f_ (h:=l_ (h:=CS (h:=Ah (h:=AW (?_)))));refine AJ ?_
  first|(exfalso;first|contradiction|omega)|exact B7 1 0 rfl rfl rfl rfl (by repeat (first|exact Sub.nil|refine B9 rfl rfl ?_|refine BC ?_|refine BD rfl ?_|refine BE rfl ?_|(apply Sub.of;(focus exact rfl);(focus exact LeA.of_eq (vb (by rw[Bool.eq_iff_iff];simp;try omega)));(focus exact rfl))))
 skip
 refine A8 rfl (fun hb8=>?_) (fun hb8=>?_)
 ·have hc8:=bp hb8;refine w_ (a_ (h:=e_ (A6 (A4 (?_)))));refine AA ?_;exact vb (by rw[EM,if_pos hc8])
 have hc8:=bp hb8;refine AN (q_ (w_ (f_ (h:=l_ (h:=Ac (h:=e_ (?_)))))));refine A8 rfl (fun hb9=>?_) (fun hb9=>?_)
 ·have hc9:=bp hb9;refine w_ (f_ (h:=l_ (h:=?_)));refine A7 rfl (AK (XG n.target hs) ?_);rintro r rfl;refine a_ (h:=e_ (A6 (A4 (?_))));refine AA ?_;exact vb (by rw[EM,if_neg hc8,if_pos hc9])
 have hc9:=bp hb9;refine AN (w_ (f_ (h:=l_ (h:=Ac (h:=a_ (h:=e_ (A6 (?_))))))));refine AA ?_;exact vb (by rw[EM,if_neg hc8,if_neg hc9,ee])
theorem Lr(f:AT)(a:A9)(hf:FlsB f):AFn prog 66 [.agg (Al f), .agg (AB a)] (fun r=>r= .v (.int .i64 (F6 f a:Int))):=by
 refine enter Tryz.func66 rfl rfl rfl rfl rfl 0 rfl ?_;refine w_ (b_ (h:=b_ (h:=a_ (h:=e_ (q_ (w_ (l_ (h:=l_ (h:=?_)))))))));refine A7 rfl (AK (Gv f a hf) ?_);rintro r rfl;refine BO (h:=e_ (?_));refine A8 rfl (fun hb1=>?_) (fun hb1=>?_)
 ·have hc1:=bp hb1
  have e:Bo f a=none:=by
   rcases Gu f a with h|⟨k,i,d,n, -, -, -, -,h, -⟩
   ·exact h.2
   exfalso;omega
  refine w_ (a_ (h:=e_ (A6 (A4 (?_)))));refine AA ?_;exact vi (by simp[F6,e])
 have hc1:=bp hb1;obtain⟨k,i,d,n,g1,g2,g3,g4,g5,g6⟩:=(Gu f a).resolve_left (fun h=>by omega);have hr1:(f.map Be)[k]?=some (Be d):=by rw[List.getElem?_map,g2];rfl
 have hdn:=hf.nodes d (Aj g2);refine AN (w_ (a_ (h:=e_ (w_ (f_ (h:=l_ (h:=f_ (h:=l_ (h:=?_)))))))));refine A7 rfl (CM (n:=k) rfl rfl g1 hr1 ?_);refine f_ (h:=l_ (h:=a_ (h:=e_ (q_ (w_ (a_ (h:=e_ (Ao (?_)))))))));refine Bm (fun m s=>∃j c:Nat,j≤d.nodes.length∧m=d.nodes.length - j∧c=Bg a.2 (d.nodes.take j)∧c≤1000 * j∧s=⟨look [(3, .bp 1 0),(5, .v (.int .i64 (c:Int))),(6, .sl 8 (d.nodes.map Ab) none),(7, .v (.int .i64 (j:Int)))],⟨[Al f,AB a],[]⟩⟩) (d.nodes.length) ((wk 2 0)) (⟨0,0,by omega,rfl,rfl,by omega,rfl⟩) ?_;rintro m s ⟨j,c,hj,rfl,hcn,hcb,rfl⟩;refine q_ (w_ (m_ (h:=m_ (h:=n_ (h:=BO (h:=e_ (?_)))))));refine A8 rfl (fun hb2=>?_) (fun hb2=>?_)
 ·have hc2:=bp hb2;obtain⟨hlt,x,hx,hrow, -⟩:=CF Ab hc2;have hen:=hf.ents d (Aj g2) x (Aj hx);refine AN (q_ (Ao (w_ (a_ (h:=e_ (Ao (?_)))))));refine Bm (fun m s=>∃i c2:Nat,i≤x.entries.length∧m=x.entries.length - i∧c2=c+Cg a.2 (x.entries.take i)∧c2≤c+i∧s=⟨look [(3, .bp 1 0),(5, .v (.int .i64 (c2:Int))),(6, .sl 8 (d.nodes.map Ab) none),(7, .v (.int .i64 (j:Int))),(8, .v (.int .i64 (i:Int)))],⟨[Al f,AB a],[]⟩⟩) (x.entries.length) ((wk 2 0)) (⟨0,c,by omega,rfl,rfl,by omega,rfl⟩) ?_;rintro m s ⟨i,c2,hi,rfl,hc2n,hc2b,rfl⟩;refine q_ (w_ (m_ (h:=m_ (h:=m_ (h:=i_ (h:=f_ (h:=l_ (h:=n_ (h:=BO (h:=e_ (?_)))))))))));refine A8 rfl (fun hb3=>?_) (fun hb3=>?_)
  ·have hc3:=bp hb3;obtain⟨hlt3,y,hy,hrow3, -⟩:=CF C7 hc3;refine AN (q_ (Ao (q_ (Dk 12 (h:=AP 0 (h:=AP 1 (h:=Dr 2 (h:=AQ 3 (h:=AF 4 (h:=AP 5 (h:=Dr 6 (h:=AQ 7 (h:=AF 8 (h:=AQ 9 (h:=AF 10 (h:=GL 11 (h:=z_ (h:=t_ (?_)))))))))))))))))));refine A8 rfl (fun hb4=>?_) (fun hb4=>?_)
   ·have hc4:=bp hb4;refine AX (m_ (h:=B2 (h:=a_ (h:=AW (Au (t_ (AX (m_ (h:=B2 (h:=a_ (h:=AW (?_))))))))))));refine AJ ?_
    first|(refine⟨_,_,?_,⟨i+1,c2+1,by omega,rfl,?_,by omega,rfl⟩,(wk 2 0)⟩<;>first|omega|(rw[Nd hy];simp[hc4];omega))|(refine⟨_,_,?_,⟨i+1,c2,by omega,rfl,?_,by omega,rfl⟩,(wk 2 0)⟩<;>first|omega|(rw[Nd hy];simp[hc4];omega))
   have hc4:=bp hb4;refine BA (Au (t_ (AX (m_ (h:=B2 (h:=a_ (h:=AW (?_))))))));refine AJ ?_
   first|(refine⟨_,_,?_,⟨i+1,c2+1,by omega,rfl,?_,by omega,rfl⟩,(wk 2 0)⟩<;>first|omega|(rw[Nd hy];simp[hc4];omega))|(refine⟨_,_,?_,⟨i+1,c2,by omega,rfl,?_,by omega,rfl⟩,(wk 2 0)⟩<;>first|omega|(rw[Nd hy];simp[hc4];omega))
  have hc3:=bp hb3;have e3:=Cx C7 hi hc3;subst e3;refine BU (Am (Am (BV (Au (t_ (AX (m_ (h:=B2 (h:=a_ (h:=AW (?_)))))))))));refine AJ ?_;refine⟨_,_,?_,⟨j+1,c2,by omega,rfl,?_,?_,rfl⟩,(wk 2 0)⟩
  ·omega
  ·rw[hc2n,XC hx,List.take_length];omega
  have:=XB a.2 (x.entries.take x.entries.length);simp at this;omega
 have hc2:=bp hb2;have e2:=Cx Ab hj hc2;subst e2;refine BU (Am (Am (BV (t_ (w_ (m_ (h:=a_ (h:=e_ (A6 (?_))))))))));refine AA ?_;exact vi (by rw[Sd g1 g2 g6,hcn,List.take_length])
end
end Go.Proofs.YtobclmbkdhbnpaaGreatDoor
