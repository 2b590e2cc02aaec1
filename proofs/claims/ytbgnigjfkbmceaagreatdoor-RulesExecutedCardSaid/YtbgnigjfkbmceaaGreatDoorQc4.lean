/-
  Part 4 of the proof of RulesExecutedP: what the statement's proof uses of the texts in wip/tpl.
-/
import Derived.WalkKit
import Derived.Test.YtbgnigjfkbmceaaGreatDoorQc3
open Go.Proofs.Tryz (prog)
set_option maxRecDepth 10000
set_option maxHeartbeats 4000000
set_option linter.unusedVariables false
set_option linter.unusedSimpArgs false
namespace Go.Proofs.YtbgnigjfkbmceaaGreatDoor
open Go.RowKit
section
variable {P:Program}{N:Dim}{Q:Exit→AS→Prop}{S:AH→Prop}{tl fuel:Nat}{l:List Oper}{listed:Array Bool}{m:List (Nat×AV)}{h:AH}
theorem Wr{i j di dj:Nat}{op op':Op}{ty ty':TypeId}{pos pos':String}{af af':Array Edge}{gd gd':Option (Nat×Bool)}(hr:Region.ready .any l.toArray listed=[i,j])
    (hi:l[i]?=some ⟨some di,op,ty,pos,af,gd⟩) (hdi:Nat.blt di N.n=true) (hwi:CP l.toArray (look m) ⟨some di,op,ty,pos,af,gd⟩=some true)
    (hj:l[j]?=some ⟨some dj,op',ty',pos',af',gd'⟩) (hdj:Nat.blt dj N.n=true) (hwj:CP l.toArray (look m) ⟨some dj,op',ty',pos',af',gd'⟩=some true)
    (H1:AStep P ⟨some di,op,ty,pos,af,gd⟩ (CO (look m)) h (fun x h'=>(Nat.ble tl i=true∨S h')∧AAny P N l.toArray Q S tl fuel (listed.setIfInBounds i true) ⟨look ((di,x)::m),h'⟩))
    (H2:AStep P ⟨some dj,op',ty',pos',af',gd'⟩ (CO (look m)) h (fun x h'=>(Nat.ble tl j=true∨S h')∧AAny P N l.toArray Q S tl fuel (listed.setIfInBounds j true) ⟨look ((dj,x)::m),h'⟩)):AAny P N l.toArray Q S tl (fuel+1) listed ⟨look m,h⟩:=by
 refine⟨(fun h0=>by rw[hr]at h0;cases h0),fun k hk=>?_⟩;rw[hr]at hk;have hk':k=i∨k=j:=by simpa using hk
 rcases hk' with rfl|rfl
 ·unfold AOp;simp only[HQ hi];exact⟨hdi,true,hwi,fun _=>H1,fun h=>by cases h⟩
 unfold AOp;simp only[HQ hj];exact⟨hdj,true,hwj,fun _=>H2,fun h=>by cases h⟩
end
section
variable {P:Program}{N:Dim}{Q:Exit→AS→Prop}{s:AS}
def AC(P:Program)(N:Dim)(y:Code)(Q:Exit→AS→Prop)(s:AS):Prop:=Bz P N y Q s
theorem q_{x y:Code}(h:Bz P N x (G4 (AC P N y Q) Q) s):Bz P N (.seq x y) Q s:=by
 intro E a w hr;refine wp_seq (wp_mono (h E a w hr) ?_);rintro e a' w' ⟨s',hq,hr'⟩
 cases e with
 |normal=>exact hq E a' w' hr'
 |exit id=>exact⟨s',hq,hr'⟩
 |goto l=>exact⟨s',hq,hr'⟩
 |ret=>exact⟨s',hq,hr'⟩
 |panic c=>exact⟨s',hq,hr'⟩
 |outgrown=>exact⟨s',hq,hr'⟩
theorem w_{id:Nat}{l:List Oper}{y:Code}(h:AL P N l.toArray (G4 (AC P N y Q) Q) l s):Bz P N (.seq (.region id l.toArray false) y) Q s:=q_ (AR h)
theorem t_{y:Code}(h:Bz P N y Q s):G4 (AC P N y Q) Q .normal s:=h
theorem e_{ops:Array Oper}{y:Code}(h:Bz P N y Q s):AL P N ops (G4 (AC P N y Q) Q) [] s:=AP h
theorem AB{y:Code}(h:Bz P N y Q s):Bz P N .skip (G4 (AC P N y Q) Q) s:=Au h
theorem B8{c:Operand}{x y:Code}{t:Bool}(hc:CO s.sl c=some (.v (.bool t)):=by rfl)(ht:t=true:=by first|rfl|assumption|simp[*])(h:Bz P N x Q s):Bz P N (.cond c x y) Q s:=WS hc ht h
theorem Bp{c:Operand}{x y:Code}{t:Bool}(hc:CO s.sl c=some (.v (.bool t)):=by rfl)(ht:t=false:=by first|rfl|assumption|simp[*])(h:Bz P N y Q s):Bz P N (.cond c x y) Q s:=WT hc ht h
end
section
variable {P:Program}{N:Dim}{Q:Exit→AS→Prop}{ops:Array Oper}{rest:List Oper}{l:List (Nat×AV)}{hh:AH}{op:Op}{ty:TypeId}{pos:String}{af:Array Edge}
theorem A3{d j:Nat}{want t:Bool}(hd:Nat.blt d N.n=true:=by rfl)(hy:yv ops (look l) j=some (some t):=by rfl)(ht:(t==want)=false:=by first|rfl|exact Rd ‹_›|exact Re ‹_›|simp[*])(h:AL P N ops Q rest ⟨look ((d, .v undef)::l),hh⟩):AL P N ops Q (⟨some d,op,ty,pos,af,some (j,want)⟩::rest) ⟨look l,hh⟩:=WU hd hy ht h
theorem AX{d j:Nat}{want:Bool}(hd:Nat.blt d N.n=true:=by rfl)(hy:yv ops (look l) j=some none:=by rfl)(h:AL P N ops Q rest ⟨look ((d, .v undef)::l),hh⟩):AL P N ops Q (⟨some d,op,ty,pos,af,some (j,want)⟩::rest) ⟨look l,hh⟩:=WV hd hy h
end
def KB:List (Nat×List AV)→AH→Prop
 |[],_=>True
 |(i,r)::l,h=>h.bx[i]?=some r∧KB l h
def PC:List (Nat×List AV)→Nat→Option (List AV)
 |[],_=>none
 |(i,r)::l,j=>match Nat.beq i j with
   |true=>some r
   |false=>PC l j
theorem kb:∀{l:List (Nat×List AV)} {h:AH} {i:Nat} {row:List AV},KB l h→PC l i=some row→h.bx[i]?=some row
 |[],_,_,_,_,e=>by cases e
 |(j,r)::l,h,i,row,k,e=>by
   unfold PC at e;split at e
   ·rename_i hb;have:=Nat.eq_of_beq_eq_true hb;subst this;injection e with e;subst e;exact k.1
   exact kb k.2 e
theorem Lf(h:AH):KB [] h:=trivial
theorem Lg{l:List (Nat×List AV)}{h:AH}{i:Nat}{r:List AV}(h1:h.bx[i]?=some r)(h2:KB l h):KB ((i,r)::l) h:=⟨h1,h2⟩
def Do(_i:Nat)(B A:Prop):Prop:=B→A
section
variable {P:Program}{N:Dim}{l:List Oper}{Q:Exit→AS→Prop}{S:AH→Prop}{tl fuel:Nat}{listed:Array Bool}{m:List (Nat×AV)}{hh:AH}{op:Op}{ty:TypeId}{pos:String}{af:Array Edge}{gd:Option (Nat×Bool)}
theorem CZ{i d:Nat}{x:AV}(hi:l[i]?=some ⟨some d,op,ty,pos,af,gd⟩)(hst:AStep P ⟨some d,op,ty,pos,af,gd⟩ (CO (look m)) hh (fun x' h'=>x'=x∧h'=hh))(hd:Nat.blt d N.n=true:=by rfl)(htl:(HM l.toArray tl listed&& !Nat.ble tl i&&Region.free .any l.toArray listed i&&(Region.ready .any l.toArray listed).contains i)=true:=by kernel_rfl)
    (hw:CP l.toArray (look m) ⟨some d,op,ty,pos,af,gd⟩=some true:=by first|rfl|exact Ba rfl rfl (DZ ‹_›)|exact Ba rfl rfl (Da ‹_›)|exact Ba rfl rfl (by simp[*])):
    Do i (AAny P N l.toArray Q (fun h'=>h'=hh) tl fuel (listed.setIfInBounds i true) ⟨look ((d,x)::m),hh⟩) (AAny P N l.toArray Q (fun h'=>h'=hh) tl (fuel+1) listed ⟨look m,hh⟩):=fun H=>RG hi hd htl hw hst H
theorem Ca{K:List (Nat×List AV)}{i d:Nat}{x:AV}(hi:l[i]?=some ⟨some d,op,ty,pos,af,gd⟩)(hst:∀h,KB K h→AStep P ⟨some d,op,ty,pos,af,gd⟩ (CO (look m)) h (fun x' h'=>x'=x∧h'=h))(hd:Nat.blt d N.n=true:=by rfl)(htl:(HM l.toArray tl listed&& !Nat.ble tl i&&Region.free .any l.toArray listed i&&(Region.ready .any l.toArray listed).contains i)=true:=by kernel_rfl)
    (hw:CP l.toArray (look m) ⟨some d,op,ty,pos,af,gd⟩=some true:=by first|rfl|exact Ba rfl rfl (DZ ‹_›)|exact Ba rfl rfl (Da ‹_›)|exact Ba rfl rfl (by simp[*])) (hS:KB K hh:=by repeat (first|exact Lf _|refine Lg rfl ?_)):
    Do i (AAny P N l.toArray Q (KB K) tl fuel (listed.setIfInBounds i true) ⟨look ((d,x)::m),hh⟩) (AAny P N l.toArray Q (KB K) tl (fuel+1) listed ⟨look m,hh⟩):=fun H=>Ex hi hd htl hw hst hS H
theorem BF{K:List (Nat×List AV)}(i:Nat){d:Nat}{x:AV}(hi:l[i]?=some ⟨some d,op,ty,pos,af,gd⟩)(hst:∀h,KB K h→AStep P ⟨some d,op,ty,pos,af,gd⟩ (CO (look m)) h (fun x' h'=>x'=x∧h'=h))(H:AAny P N l.toArray Q (KB K) tl fuel (listed.setIfInBounds i true) ⟨look ((d,x)::m),hh⟩)(hd:Nat.blt d N.n=true:=by rfl)(htl:(HM l.toArray tl listed&& !Nat.ble tl i&&Region.free .any l.toArray listed i&&(Region.ready .any l.toArray listed).contains i)=true:=by kernel_rfl)
    (hw:CP l.toArray (look m) ⟨some d,op,ty,pos,af,gd⟩=some true:=by first|rfl|exact Ba rfl rfl (DZ ‹_›)|exact Ba rfl rfl (Da ‹_›)|exact Ba rfl rfl (by simp[*])) (hS:KB K hh:=by repeat (first|exact Lf _|refine Lg rfl ?_)):AAny P N l.toArray Q (KB K) tl (fuel+1) listed ⟨look m,hh⟩:=Ex hi hd htl hw hst hS H
theorem BG(i:Nat){d:Nat}(hi:l[i]?=some ⟨some d,op,ty,pos,af,gd⟩:=by rfl)(hd:Nat.blt d N.n=true:=by rfl)(htl:(HM l.toArray tl listed&& !Nat.ble tl i&&Region.free .any l.toArray listed i&&(Region.ready .any l.toArray listed).contains i)=true:=by kernel_rfl)
    (hw:CP l.toArray (look m) ⟨some d,op,ty,pos,af,gd⟩=some false:=by first|rfl|exact Ob rfl rfl (Rd ‹_›)|exact Ob rfl rfl (Re ‹_›)|exact Vx rfl rfl|exact Ob rfl rfl (by simp[*]))
    (hS:S hh:=by first|rfl|(repeat (first|exact Lf _|refine Lg rfl ?_))) (h:AAny P N l.toArray Q S tl fuel (listed.setIfInBounds i true) ⟨look ((d, .v undef)::m),hh⟩):AAny P N l.toArray Q S tl (fuel+1) listed ⟨look m,hh⟩:=Vs hi hd htl hw hS h
theorem c_(i:Nat){d:Nat}(hi:l[i]?=some ⟨some d,op,ty,pos,af,gd⟩)(H:AStep P ⟨some d,op,ty,pos,af,gd⟩ (CO (look m)) hh (fun x h'=>(Nat.ble tl i=true∨S h')∧AAny P N l.toArray Q S tl fuel (listed.setIfInBounds i true) ⟨look ((d,x)::m),h'⟩))(hd:Nat.blt d N.n=true:=by rfl)(hr:Region.ready .any l.toArray listed=[i]:=by kernel_rfl)
    (hw:CP l.toArray (look m) ⟨some d,op,ty,pos,af,gd⟩=some true:=by first|rfl|exact Ba rfl rfl (DZ ‹_›)|exact Ba rfl rfl (Da ‹_›)|exact Ba rfl rfl (by simp[*])):AAny P N l.toArray Q S tl (fuel+1) listed ⟨look m,hh⟩:=Vt hi hd hr hw H
theorem BH(i:Nat)(hi:l[i]?=some ⟨none,op,ty,pos,af,gd⟩)(H:AStep P ⟨none,op,ty,pos,af,gd⟩ (CO (look m)) hh (fun _ h'=>(Nat.ble tl i=true∨S h')∧AAny P N l.toArray Q S tl fuel (listed.setIfInBounds i true) ⟨look m,h'⟩))(hr:Region.ready .any l.toArray listed=[i]:=by kernel_rfl)
    (hw:CP l.toArray (look m) ⟨none,op,ty,pos,af,gd⟩=some true:=by first|rfl|exact Ba rfl rfl (DZ ‹_›)|exact Ba rfl rfl (Da ‹_›)|exact Ba rfl rfl (by simp[*])):AAny P N l.toArray Q S tl (fuel+1) listed ⟨look m,hh⟩:=Vu hi hr hw H
theorem F6(i j:Nat){di dj:Nat}{op':Op}{ty':TypeId}{pos':String}{af':Array Edge}{gd':Option (Nat×Bool)}(hi:l[i]?=some ⟨some di,op,ty,pos,af,gd⟩)(hj:l[j]?=some ⟨some dj,op',ty',pos',af',gd'⟩)
    (H1:AStep P ⟨some di,op,ty,pos,af,gd⟩ (CO (look m)) hh (fun x h'=>(Nat.ble tl i=true∨S h')∧AAny P N l.toArray Q S tl fuel (listed.setIfInBounds i true) ⟨look ((di,x)::m),h'⟩))
    (H2:AStep P ⟨some dj,op',ty',pos',af',gd'⟩ (CO (look m)) hh (fun x h'=>(Nat.ble tl j=true∨S h')∧AAny P N l.toArray Q S tl fuel (listed.setIfInBounds j true) ⟨look ((dj,x)::m),h'⟩))
    (hdi:Nat.blt di N.n=true:=by rfl) (hdj:Nat.blt dj N.n=true:=by rfl) (hr:Region.ready .any l.toArray listed=[i,j]:=by kernel_rfl)
    (hwi:CP l.toArray (look m) ⟨some di,op,ty,pos,af,gd⟩=some true:=by first|rfl|exact Ba rfl rfl (DZ ‹_›)|exact Ba rfl rfl (Da ‹_›)|exact Ba rfl rfl (by simp[*]))
    (hwj:CP l.toArray (look m) ⟨some dj,op',ty',pos',af',gd'⟩=some true:=by first|rfl|exact Ba rfl rfl (DZ ‹_›)|exact Ba rfl rfl (Da ‹_›)|exact Ba rfl rfl (by simp[*])):AAny P N l.toArray Q S tl (fuel+1) listed ⟨look m,hh⟩:=Wr hr hi hdi hwi hj hdj hwj H1 H2
theorem o_{i:Nat}{A:Prop}{h':AH}(hS:Nat.ble tl i=true∨S h':=by first|exact .inl rfl|exact .inr rfl|exact .inr (by repeat (first|exact Lf _|refine Lg rfl ?_)))(h:A):(Nat.ble tl i=true∨S h')∧A:=⟨hS,h⟩
theorem z_(hr:Region.ready .any l.toArray listed=[]:=by kernel_rfl)(h:Q .normal ⟨look m,hh⟩):AAny P N l.toArray Q S tl fuel listed ⟨look m,hh⟩:=Vw hr h fuel
theorem Cp(tl:Nat){id:Nat}(hm:P.follows .mixedOrders=true:=by kernel_rfl)(h:AAny P N l.toArray Q (fun h'=>h'=hh) tl l.length (Array.replicate l.length false) ⟨look m,hh⟩):Bz P N (.region id l.toArray true) Q ⟨look m,hh⟩:=Vv tl hm h
theorem Bf(K:List (Nat×List AV))(tl:Nat){id:Nat}(hm:P.follows .mixedOrders=true:=by kernel_rfl)(h:AAny P N l.toArray Q (KB K) tl l.length (Array.replicate l.length false) ⟨look m,hh⟩):Bz P N (.region id l.toArray true) Q ⟨look m,hh⟩:=Md _ tl hm h
end
section
variable {P:Program}{rs:List ResultVar}{n:Nat}{R:AV→List (List AV)→List CK→Prop}{s:AS}{xs:List AV}{r:AV}
theorem Ai(g:Option Nat){tk':List CK}(h1:ResA P s rs xs:=by repeat (first|exact ResA.nil|(apply ResA.tmp;(focus exact rfl))|(apply ResA.cellN;(focus exact inferInstance);(focus exact rfl);(focus exact rfl);(focus exact rfl))|(apply ResA.cell1;(focus exact inferInstance);(focus exact rfl);(focus exact rfl);(focus exact rfl))))(h2:JW s.h.tk g=some tk':=by rfl)(h3:Aa n 1 (DK g (ES xs))=true:=by rfl)(h4:Af n 0 (s.h.bx.take n)=true:=by rfl)(h5:LeA (DK g (ES xs)) r)(h6:R r (s.h.bx.take n) tk'):JX P rs n R .ret s:=N7 g h1 h2 h3 h4 h5 h6
theorem NY(g:Option Nat){tk':List CK}(h1:ResA P s rs xs:=by repeat (first|exact ResA.nil|(apply ResA.tmp;(focus exact rfl))|(apply ResA.cellN;(focus exact inferInstance);(focus exact rfl);(focus exact rfl);(focus exact rfl))|(apply ResA.cell1;(focus exact inferInstance);(focus exact rfl);(focus exact rfl);(focus exact rfl))))(h2:JW s.h.tk g=some tk':=by rfl)(h3:Aa n 1 (DK g (ES xs))=true:=by rfl)(h4:Af n 0 (s.h.bx.take n)=true:=by rfl)(h5:LeA (DK g (ES xs)) r)(h6:R r (s.h.bx.take n) tk'):JX P rs n R .normal s:=WJ g h1 h2 h3 h4 h5 h6
end
theorem m_{A B:Prop}(k:B→A:=by intro b;first|exact A7 rfl (HU rfl b)|exact B4 (HU rfl b))(h:B):A:=k h
theorem AU(i:Nat){A B:Prop}(k:Do i B A:=by first|exact CZ rfl (HU rfl ⟨rfl,rfl⟩)|exact Ca rfl (fun _ _=>HU rfl ⟨rfl,rfl⟩))(h:B):A:=k h
theorem a_{A B:Prop}(k:B→A:=by intro b;first|exact A7 rfl (FY rfl b)|exact B4 (FY rfl b))(h:B):A:=k h
theorem BO(i:Nat){A B:Prop}(k:Do i B A:=by first|exact CZ rfl (FY rfl ⟨rfl,rfl⟩)|exact Ca rfl (fun _ _=>FY rfl ⟨rfl,rfl⟩))(h:B):A:=k h
theorem f_{A B:Prop}(k:B→A:=by intro b;first|exact A7 rfl (Gx rfl b)|exact A7 rfl (Ml rfl b)|exact B4 (Gx rfl b)|exact B4 (Ml rfl b))(h:B):A:=k h
theorem AO(i:Nat){A B:Prop}(k:Do i B A:=by first|exact CZ rfl (Gx rfl ⟨rfl,rfl⟩)|exact CZ rfl (Ml rfl ⟨rfl,rfl⟩)|exact Ca rfl (fun _ _=>Gx rfl ⟨rfl,rfl⟩)|exact Ca rfl (fun _ _=>Ml rfl ⟨rfl,rfl⟩))(h:B):A:=k h
theorem l_{A B:Prop}(k:B→A:=by intro b;first|exact A7 rfl (Bt rfl rfl rfl b)|exact A7 rfl (GV rfl rfl rfl b)|exact A7 rfl (KZ rfl rfl b)|exact A7 rfl (Mm rfl rfl b)|exact A7 rfl (JS rfl rfl rfl b)|exact A7 rfl (LQ rfl rfl b)|exact B4 (Bt rfl rfl rfl b)|exact B4 (GV rfl rfl rfl b)|exact B4 (KZ rfl rfl b)|exact B4 (Mm rfl rfl b)|exact B4 (JS rfl rfl rfl b)|exact B4 (LQ rfl rfl b))(h:B):A:=k h
theorem AJ(i:Nat){A B:Prop}(k:Do i B A:=by first|exact CZ rfl (Bt rfl rfl rfl ⟨rfl,rfl⟩)|exact CZ rfl (GV rfl rfl rfl ⟨rfl,rfl⟩)|exact CZ rfl (KZ rfl rfl ⟨rfl,rfl⟩)|exact CZ rfl (Mm rfl rfl ⟨rfl,rfl⟩)|exact CZ rfl (JS rfl rfl rfl ⟨rfl,rfl⟩)|exact CZ rfl (LQ rfl rfl ⟨rfl,rfl⟩)|exact Ca rfl (fun _ hS=>Bt rfl (kb hS rfl) rfl ⟨rfl,rfl⟩)|exact Ca rfl (fun _ hS=>GV rfl (kb hS rfl) rfl ⟨rfl,rfl⟩)|exact Ca rfl (fun _ _=>KZ rfl rfl ⟨rfl,rfl⟩)|exact Ca rfl (fun _ _=>Mm rfl rfl ⟨rfl,rfl⟩)|exact Ca rfl (fun _ hS=>JS rfl (kb hS rfl) rfl ⟨rfl,rfl⟩)|exact Ca rfl (fun _ _=>LQ rfl rfl ⟨rfl,rfl⟩))(h:B):A:=k h
theorem s_{A B:Prop}(k:B→A:=by intro b;exact K1 (BC rfl rfl rfl rfl rfl rfl (by repeat constructor) (by repeat constructor) b))(h:B):A:=k h
theorem b_{A B:Prop}(k:B→A:=by intro b;first|exact A7 rfl (ND rfl rfl (by repeat constructor) b)|exact A7 rfl (NC rfl rfl (by repeat constructor) b)|exact B4 (ND rfl rfl (by repeat constructor) b)|exact B4 (NC rfl rfl (by repeat constructor) b))(h:B):A:=k h
theorem Al{A B:Prop}(k:B→A:=by intro b;first|exact A7 rfl (CV (by repeat constructor) b)|exact B4 (CV (by repeat constructor) b))(h:B):A:=k h
theorem n_{A B:Prop}(k:B→A:=by intro b;first|exact A7 rfl (N3 rfl b)|exact A7 rfl (N2 (by kernel_rfl) rfl b)|exact A7 rfl (N4 rfl b)|exact B4 (N3 rfl b)|exact B4 (N2 (by kernel_rfl) rfl b)|exact B4 (N4 rfl b))(h:B):A:=k h
theorem Gz(i:Nat){A B:Prop}(k:Do i B A:=by first|exact CZ rfl (N3 rfl ⟨rfl,rfl⟩)|exact CZ rfl (N2 (by kernel_rfl) rfl ⟨rfl,rfl⟩)|exact CZ rfl (N4 rfl ⟨rfl,rfl⟩)|exact Ca rfl (fun _ _=>N3 rfl ⟨rfl,rfl⟩)|exact Ca rfl (fun _ _=>N2 (by kernel_rfl) rfl ⟨rfl,rfl⟩)|exact Ca rfl (fun _ _=>N4 rfl ⟨rfl,rfl⟩))(h:B):A:=k h
theorem EU{A B:Prop}(k:B→A:=by intro b;first|exact A7 rfl (Dx rfl rfl rfl (by simp<;>omega) (by repeat constructor) b)|exact A7 rfl (Dy rfl rfl (by simp<;>omega) (by repeat constructor) b)|exact B4 (Dx rfl rfl rfl (by simp<;>omega) (by repeat constructor) b)|exact B4 (Dy rfl rfl (by simp<;>omega) (by repeat constructor) b))(h:B):A:=k h
theorem x_{A B:Prop}(k:B→A:=by intro b;first|exact A7 rfl (Mi rfl rfl b)|exact B4 (Mi rfl rfl b))(h:B):A:=k h
theorem BX(i:Nat){A B:Prop}(k:Do i B A:=by first|exact CZ rfl (Mi rfl rfl ⟨rfl,rfl⟩)|exact Ca rfl (fun _ _=>Mi rfl rfl ⟨rfl,rfl⟩))(h:B):A:=k h
theorem k_{A B:Prop}(k:B→A:=by intro b;first|exact A7 rfl (Mj rfl b)|exact A7 rfl (Mk rfl b)|exact B4 (Mj rfl b)|exact B4 (Mk rfl b))(h:B):A:=k h
theorem BS(i:Nat){A B:Prop}(k:Do i B A:=by first|exact CZ rfl (Mj rfl ⟨rfl,rfl⟩)|exact CZ rfl (Mk rfl ⟨rfl,rfl⟩)|exact Ca rfl (fun _ _=>Mj rfl ⟨rfl,rfl⟩)|exact Ca rfl (fun _ _=>Mk rfl ⟨rfl,rfl⟩))(h:B):A:=k h
theorem Ak{A B:Prop}(k:B→A:=by intro b;first|exact A7 rfl (LV (by repeat (first|exact FillA.nil _|(apply FillA.cons;(focus exact rfl);(focus exact rfl);(focus exact rfl);(focus exact rfl);(focus exact rfl);(focus (repeat constructor))))) b)|exact B4 (LV (by repeat (first|exact FillA.nil _|(apply FillA.cons;(focus exact rfl);(focus exact rfl);(focus exact rfl);(focus exact rfl);(focus exact rfl);(focus (repeat constructor))))) b))(h:B):A:=k h
theorem Hc(i:Nat){A B:Prop}(k:Do i B A:=by first|exact CZ rfl (LV (by repeat (first|exact FillA.nil _|(apply FillA.cons;(focus exact rfl);(focus exact rfl);(focus exact rfl);(focus exact rfl);(focus exact rfl);(focus (repeat constructor))))) ⟨rfl,rfl⟩)|exact Ca rfl (fun _ _=>LV (by repeat (first|exact FillA.nil _|(apply FillA.cons;(focus exact rfl);(focus exact rfl);(focus exact rfl);(focus exact rfl);(focus exact rfl);(focus (repeat constructor))))) ⟨rfl,rfl⟩))(h:B):A:=k h
theorem Bd{A B:Prop}(k:B→A:=by intro b;first|exact A7 rfl (LW (by repeat (first|exact DenseA.nil _|(apply DenseA.cons;(focus exact rfl);(focus exact rfl);(focus exact rfl);(focus exact rfl))|(apply DenseA.consE;(focus exact rfl);(focus exact rfl);(focus exact rfl)))) rfl rfl rfl rfl b)|exact B4 (LW (by repeat (first|exact DenseA.nil _|(apply DenseA.cons;(focus exact rfl);(focus exact rfl);(focus exact rfl);(focus exact rfl))|(apply DenseA.consE;(focus exact rfl);(focus exact rfl);(focus exact rfl)))) rfl rfl rfl rfl b))(h:B):A:=k h
theorem H0(i:Nat){A B:Prop}(k:Do i B A:=by first|exact CZ rfl (LW (by repeat (first|exact DenseA.nil _|(apply DenseA.cons;(focus exact rfl);(focus exact rfl);(focus exact rfl);(focus exact rfl))|(apply DenseA.consE;(focus exact rfl);(focus exact rfl);(focus exact rfl)))) rfl rfl rfl rfl ⟨rfl,rfl⟩)|exact Ca rfl (fun _ _=>LW (by repeat (first|exact DenseA.nil _|(apply DenseA.cons;(focus exact rfl);(focus exact rfl);(focus exact rfl);(focus exact rfl))|(apply DenseA.consE;(focus exact rfl);(focus exact rfl);(focus exact rfl)))) rfl rfl rfl rfl ⟨rfl,rfl⟩))(h:B):A:=k h
theorem AF{A B:Prop}(k:B→A:=by intro b;first|exact A7 rfl (NO b)|exact B4 (NO b))(h:B):A:=k h
theorem Fb(i:Nat){A B:Prop}(k:Do i B A:=by first|exact CZ rfl (NO ⟨rfl,rfl⟩)|exact Ca rfl (fun _ _=>NO ⟨rfl,rfl⟩))(h:B):A:=k h
theorem AM{A B:Prop}(k:B→A:=by intro b;first|exact A7 rfl (NP b)|exact B4 (NP b))(h:B):A:=k h
theorem Fc(i:Nat){A B:Prop}(k:Do i B A:=by first|exact CZ rfl (NP ⟨rfl,rfl⟩)|exact Ca rfl (fun _ _=>NP ⟨rfl,rfl⟩))(h:B):A:=k h
theorem Rz{A B:Prop}(k:B→A:=by intro b;first|exact A7 rfl (RH rfl b)|exact B4 (RH rfl b))(h:B):A:=k h
theorem i_{A B:Prop}(k:B→A:=by intro b;first|exact A7 rfl (Cl rfl rfl rfl (by first|assumption|rfl) b)|exact B4 (Cl rfl rfl rfl (by first|assumption|rfl) b))(h:B):A:=k h
theorem Cg(i:Nat){A B:Prop}(k:Do i B A:=by first|exact CZ rfl (Cl rfl rfl rfl (by first|assumption|rfl) ⟨rfl,rfl⟩)|exact Ca rfl (fun _ _=>Cl rfl rfl rfl (by first|assumption|rfl) ⟨rfl,rfl⟩))(h:B):A:=k h
theorem S1{A B:Prop}(k:B→A:=by intro b;first|exact A7 rfl (Rf rfl rfl (by omega) (by repeat constructor) b)|exact B4 (Rf rfl rfl (by omega) (by repeat constructor) b))(h:B):A:=k h
theorem B9{A B:Prop}(k:B→A:=by intro b;first|exact A7 rfl (N1 rfl b)|exact B4 (N1 rfl b))(h:B):A:=k h
theorem Ws(i:Nat){A B:Prop}(k:Do i B A:=by first|exact CZ rfl (N1 rfl ⟨rfl,rfl⟩)|exact Ca rfl (fun _ _=>N1 rfl ⟨rfl,rfl⟩))(h:B):A:=k h
theorem BD{A B:Prop}(k:B→A:=by intro b;first|exact A7 rfl (Kb rfl rfl (by omega) b)|exact A7 rfl (Ey rfl rfl (by omega) b)|exact A7 rfl (Om rfl rfl b)|exact B4 (Kb rfl rfl (by omega) b)|exact B4 (Ey rfl rfl (by omega) b)|exact B4 (Om rfl rfl b))(h:B):A:=k h
theorem Fd{A B:Prop}(k:B→A:=by intro b;first|exact A7 rfl (JU rfl rfl (by omega) b)|exact A7 rfl (LU rfl rfl b)|exact B4 (JU rfl rfl (by omega) b)|exact B4 (LU rfl rfl b))(h:B):A:=k h
theorem PD(i:Nat){A B:Prop}(k:Do i B A:=by first|exact CZ rfl (JU rfl rfl (by omega) ⟨rfl,rfl⟩)|exact CZ rfl (LU rfl rfl ⟨rfl,rfl⟩)|exact Ca rfl (fun _ _=>JU rfl rfl (by omega) ⟨rfl,rfl⟩)|exact Ca rfl (fun _ _=>LU rfl rfl ⟨rfl,rfl⟩))(h:B):A:=k h
theorem Wt{A B:Prop}(k:B→A:=by intro b;first|exact A7 rfl (RO rfl rfl b)|exact B4 (RO rfl rfl b))(h:B):A:=k h
theorem Wu{A B:Prop}(k:B→A:=by intro b;first|exact A7 rfl (Mq rfl rfl (by omega) b)|exact B4 (Mq rfl rfl (by omega) b))(h:B):A:=k h
theorem AD{A B:Prop}(k:B→A:=by intro b;first|exact A7 rfl (Mr rfl rfl b)|exact A7 rfl (Mx rfl rfl b)|exact A7 rfl (NG (by kernel_rfl) rfl rfl b)|exact B4 (Mr rfl rfl b)|exact B4 (Mx rfl rfl b)|exact B4 (NG (by kernel_rfl) rfl rfl b))(h:B):A:=k h
theorem H3(i:Nat){A B:Prop}(k:Do i B A:=by first|exact CZ rfl (Mr rfl rfl ⟨rfl,rfl⟩)|exact CZ rfl (Mx rfl rfl ⟨rfl,rfl⟩)|exact CZ rfl (NG (by kernel_rfl) rfl rfl ⟨rfl,rfl⟩)|exact Ca rfl (fun _ _=>Mr rfl rfl ⟨rfl,rfl⟩)|exact Ca rfl (fun _ _=>Mx rfl rfl ⟨rfl,rfl⟩)|exact Ca rfl (fun _ _=>NG (by kernel_rfl) rfl rfl ⟨rfl,rfl⟩))(h:B):A:=k h
theorem Ap{A B:Prop}(k:B→A:=by intro b;first|exact A7 rfl (Ms rfl rfl b)|exact A7 rfl (My rfl rfl b)|exact A7 rfl (NH (by kernel_rfl) rfl rfl b)|exact B4 (Ms rfl rfl b)|exact B4 (My rfl rfl b)|exact B4 (NH (by kernel_rfl) rfl rfl b))(h:B):A:=k h
theorem Lh(i:Nat){A B:Prop}(k:Do i B A:=by first|exact CZ rfl (Ms rfl rfl ⟨rfl,rfl⟩)|exact CZ rfl (My rfl rfl ⟨rfl,rfl⟩)|exact CZ rfl (NH (by kernel_rfl) rfl rfl ⟨rfl,rfl⟩)|exact Ca rfl (fun _ _=>Ms rfl rfl ⟨rfl,rfl⟩)|exact Ca rfl (fun _ _=>My rfl rfl ⟨rfl,rfl⟩)|exact Ca rfl (fun _ _=>NH (by kernel_rfl) rfl rfl ⟨rfl,rfl⟩))(h:B):A:=k h
theorem BB{A B:Prop}(k:B→A:=by intro b;first|exact A7 rfl (Mt rfl rfl b)|exact A7 rfl (Mz rfl rfl b)|exact B4 (Mt rfl rfl b)|exact B4 (Mz rfl rfl b))(h:B):A:=k h
theorem S2(i:Nat){A B:Prop}(k:Do i B A:=by first|exact CZ rfl (Mt rfl rfl ⟨rfl,rfl⟩)|exact CZ rfl (Mz rfl rfl ⟨rfl,rfl⟩)|exact Ca rfl (fun _ _=>Mt rfl rfl ⟨rfl,rfl⟩)|exact Ca rfl (fun _ _=>Mz rfl rfl ⟨rfl,rfl⟩))(h:B):A:=k h
theorem E6{A B:Prop}(k:B→A:=by intro b;first|exact A7 rfl (Mu rfl rfl b)|exact B4 (Mu rfl rfl b))(h:B):A:=k h
theorem Wv(i:Nat){A B:Prop}(k:Do i B A:=by first|exact CZ rfl (Mu rfl rfl ⟨rfl,rfl⟩)|exact Ca rfl (fun _ _=>Mu rfl rfl ⟨rfl,rfl⟩))(h:B):A:=k h
theorem Bl{A B:Prop}(k:B→A:=by intro b;first|exact A7 rfl (Mv rfl rfl b)|exact B4 (Mv rfl rfl b))(h:B):A:=k h
theorem PF(i:Nat){A B:Prop}(k:Do i B A:=by first|exact CZ rfl (Mv rfl rfl ⟨rfl,rfl⟩)|exact Ca rfl (fun _ _=>Mv rfl rfl ⟨rfl,rfl⟩))(h:B):A:=k h
theorem Cw{A B:Prop}(k:B→A:=by intro b;first|exact A7 rfl (Mw rfl rfl b)|exact A7 rfl (N0 rfl rfl b)|exact B4 (Mw rfl rfl b)|exact B4 (N0 rfl rfl b))(h:B):A:=k h
theorem S3(i:Nat){A B:Prop}(k:Do i B A:=by first|exact CZ rfl (Mw rfl rfl ⟨rfl,rfl⟩)|exact CZ rfl (N0 rfl rfl ⟨rfl,rfl⟩)|exact Ca rfl (fun _ _=>Mw rfl rfl ⟨rfl,rfl⟩)|exact Ca rfl (fun _ _=>N0 rfl rfl ⟨rfl,rfl⟩))(h:B):A:=k h
theorem DR{A B:Prop}(k:B→A:=by intro b;first|exact A7 rfl (Rg rfl rfl b)|exact B4 (Rg rfl rfl b))(h:B):A:=k h
theorem at_{A B:Prop}(k:B→A:=by intro b;first|exact A7 rfl (Ro rfl rfl b)|exact B4 (Ro rfl rfl b))(h:B):A:=k h
theorem Ww{A B:Prop}(k:B→A:=by intro b;first|exact A7 rfl (Rh rfl rfl b)|exact B4 (Rh rfl rfl b))(h:B):A:=k h
theorem Li{A B:Prop}(k:B→A:=by intro b;first|exact A7 rfl (Oz rfl rfl (by omega) b)|exact B4 (Oz rfl rfl (by omega) b))(h:B):A:=k h
theorem Bb{f:Nat→Option AV}{bx:List (List AV)}{tk:List (Nat×Nat×List (List AV))}{l:List (Nat×AV)}{N:Dim}(n m:Nat){bx':List (List AV)}{tk':List (Nat×Nat×List (List AV))}(hbp:Af n m bx'=true)(hn:Nat.ble N.ni n=true:=by rfl)(hb:bx.take n=bx':=by rfl)(ht:tk.take m=tk':=by rfl)(hl:Sub n m f l:=by repeat (first|exact Sub.nil|refine Sub.cons _ _ _ rfl rfl ?_|refine Sub.any _ _ ?_|refine Sub.sl _ _ _ _ _ rfl ?_|refine Sub.slnil _ _ _ rfl ?_)):Weak N ⟨f,⟨bx,tk⟩⟩ ⟨look l,⟨bx',tk'⟩⟩:=Av n m hn hb ht hbp hl
theorem D8{P:Program}{ev:Operand→Option AV}{h:AH}{R:AV→AH→Prop}{d:Option Tmp}{ty:TypeId}{pos:String}{af:Array Edge}{gd:Option (Nat×Bool)}{T:TypeId}{l:List (Nat×Operand)}{pl:List (Nat×Nat)}{row cs:List AV}[hp:Plc P T pl][hz:Zer P T row](hR:R (.agg cs) h)(hf:FillA pl ev row l cs:=by repeat (first|exact FillA.nil _|(apply FillA.cons;(focus exact rfl);(focus exact rfl);(focus exact rfl);(focus exact rfl);(focus exact rfl);(focus (repeat constructor))))):AStep P ⟨d, .build T l.toArray,ty,pos,af,gd⟩ ev h R:=LV hf hR
theorem FJ{P:Program}{ev:Operand→Option AV}{h:AH}{R:AV→AH→Prop}{o:Oper}{x y:AV}(hs:AStep P o ev h fun r h'=>r=x∧h'=h)(hR:R y h)(hl:LeA x y:=by repeat (first|exact AA _|exact LeA.nil _|exact LeL.refl _|refine LeA.agg ?_|refine LeA.tup ?_|exact LeL.nil|refine LeL.cons ?_ ?_|exact LeA.any _)):AStep P o ev h R:=FH hs hl hR
instance :Typ prog 3 1 false:=⟨by kernel_rfl⟩
instance :Typ prog 4 1 false:=⟨by kernel_rfl⟩
instance :Typ prog 9 1 false:=⟨by kernel_rfl⟩
instance :Typ prog 22 1 false:=⟨by kernel_rfl⟩
instance :Elm prog 22 3 1 8:=⟨by kernel_rfl,by decide⟩
instance :Typ prog 26 2 true:=⟨by kernel_rfl⟩
instance :Zer prog 26 [.v (.int .i64 0), .v (.int .i64 0)]:=⟨[.int .i64 0, .int .i64 0],by kernel_rfl,rfl,rfl⟩
instance :Plc prog 26 [(0,1),(1,1)]:=⟨by kernel_rfl⟩
instance :Fld prog 26 0 0 1:=⟨by kernel_rfl⟩
instance :Fld prog 26 1 1 1:=⟨by kernel_rfl⟩
instance :Typ prog 27 1 false:=⟨by kernel_rfl⟩
instance :Elm prog 27 291 4 32:=⟨by kernel_rfl,by decide⟩
instance :Typ prog 29 14 true:=⟨by kernel_rfl⟩
instance :Zer prog 29 [.v (.int .i64 0), .v (.int .i64 0), .v (.int .i64 0), .v (.int .i64 0), .v (.int .i64 0), .v (.int .i64 0), .v (.int .i64 0), .v (.int .i64 0), .v (.int .i64 0), .v (.int .i64 0), .v (.string ⟨#[]⟩), .v (.string ⟨#[]⟩), .v (.slice none 0 0), .v (.bool false)]:=⟨[.int .i64 0, .int .i64 0, .int .i64 0, .int .i64 0, .int .i64 0, .int .i64 0, .int .i64 0, .int .i64 0, .int .i64 0, .int .i64 0, .string ⟨#[]⟩, .string ⟨#[]⟩, .slice none 0 0, .bool false],by kernel_rfl,rfl,rfl⟩
instance :Plc prog 29 [(0,1),(1,1),(2,1),(3,1),(4,1),(5,1),(6,1),(7,1),(8,2),(10,1),(11,1),(12,1),(13,1)]:=⟨by kernel_rfl⟩
instance :Fld prog 29 0 0 1:=⟨by kernel_rfl⟩
instance :Fld prog 29 1 1 1:=⟨by kernel_rfl⟩
instance :Fld prog 29 2 2 1:=⟨by kernel_rfl⟩
instance :Fld prog 29 3 3 1:=⟨by kernel_rfl⟩
instance :Fld prog 29 4 4 1:=⟨by kernel_rfl⟩
instance :Fld prog 29 5 5 1:=⟨by kernel_rfl⟩
instance :Fld prog 29 6 6 1:=⟨by kernel_rfl⟩
instance :Fld prog 29 7 7 1:=⟨by kernel_rfl⟩
instance :Fld prog 29 8 8 2:=⟨by kernel_rfl⟩
instance :Fld prog 29 9 10 1:=⟨by kernel_rfl⟩
instance :Fld prog 29 10 11 1:=⟨by kernel_rfl⟩
instance :Fld prog 29 11 12 1:=⟨by kernel_rfl⟩
instance :Typ prog 30 4 true:=⟨by kernel_rfl⟩
instance :Zer prog 30 [.v (.int .i64 0), .v (.int .i64 0), .v (.int .i64 0), .v (.int .i64 0)]:=⟨[.int .i64 0, .int .i64 0, .int .i64 0, .int .i64 0],by kernel_rfl,rfl,rfl⟩
instance :Plc prog 30 [(0,1),(1,1),(2,1),(3,1)]:=⟨by kernel_rfl⟩
instance :Typ prog 31 1 false:=⟨by kernel_rfl⟩
instance :Elm prog 31 9 1 16:=⟨by kernel_rfl,by decide⟩
instance :Typ prog 33 7 true:=⟨by kernel_rfl⟩
instance :Zer prog 33 [.v (.int .i64 0), .v (.int .i64 0), .v (.int .i64 0), .v (.int .i64 0), .v (.int .i64 0), .v (.slice none 0 0), .v (.slice none 0 0)]:=⟨[.int .i64 0, .int .i64 0, .int .i64 0, .int .i64 0, .int .i64 0, .slice none 0 0, .slice none 0 0],by kernel_rfl,rfl,rfl⟩
instance :Plc prog 33 [(0,1),(1,4),(5,1),(6,1)]:=⟨by kernel_rfl⟩
instance :Fld prog 33 0 0 1:=⟨by kernel_rfl⟩
instance :Fld prog 33 1 1 4:=⟨by kernel_rfl⟩
instance :Fld prog 33 2 5 1:=⟨by kernel_rfl⟩
instance :Fld prog 33 3 6 1:=⟨by kernel_rfl⟩
instance :Typ prog 34 1 false:=⟨by kernel_rfl⟩
instance :Elm prog 34 121 13 128:=⟨by kernel_rfl,by decide⟩
instance :Typ prog 36 25 true:=⟨by kernel_rfl⟩
instance :Zer prog 36 [.v (.int .i64 0), .v (.int .i64 0), .v (.int .i64 0), .v (.int .i64 0), .v (.int .i64 0), .v (.int .i64 0), .v (.int .i64 0), .v (.int .i64 0), .v (.int .i64 0), .v (.int .i64 0), .v (.int .i64 0), .v (.string ⟨#[]⟩), .v (.string ⟨#[]⟩), .v (.slice none 0 0), .v (.bool false), .v (.int .i64 0), .v (.int .i64 0), .v (.int .i64 0), .v (.int .i64 0), .v (.int .i64 0), .v (.slice none 0 0), .v (.slice none 0 0), .v (.int .i64 0), .v (.slice none 0 0), .v (.int .i64 0)]:=⟨[.int .i64 0, .int .i64 0, .int .i64 0, .int .i64 0, .int .i64 0, .int .i64 0, .int .i64 0, .int .i64 0, .int .i64 0, .int .i64 0, .int .i64 0, .string ⟨#[]⟩, .string ⟨#[]⟩, .slice none 0 0, .bool false, .int .i64 0, .int .i64 0, .int .i64 0, .int .i64 0, .int .i64 0, .slice none 0 0, .slice none 0 0, .int .i64 0, .slice none 0 0, .int .i64 0],by kernel_rfl,rfl,rfl⟩
instance :Plc prog 36 [(0,1),(1,14),(15,7),(22,1),(23,1),(24,1)]:=⟨by kernel_rfl⟩
instance :Fld prog 36 0 0 1:=⟨by kernel_rfl⟩
instance :Fld prog 36 1 1 14:=⟨by kernel_rfl⟩
instance :Fld prog 36 2 15 7:=⟨by kernel_rfl⟩
instance :Fld prog 36 3 22 1:=⟨by kernel_rfl⟩
instance :Fld prog 36 4 23 1:=⟨by kernel_rfl⟩
instance :Fld prog 36 5 24 1:=⟨by kernel_rfl⟩
instance :Typ prog 37 1 false:=⟨by kernel_rfl⟩
instance :Elm prog 37 148 2 32:=⟨by kernel_rfl,by decide⟩
instance :Typ prog 39 1 true:=⟨by kernel_rfl⟩
instance :Zer prog 39 [.v (.slice none 0 0)]:=⟨[.slice none 0 0],by kernel_rfl,rfl,rfl⟩
instance :Plc prog 39 [(0,1)]:=⟨by kernel_rfl⟩
instance :Fld prog 39 0 0 1:=⟨by kernel_rfl⟩
instance :Typ prog 40 1 false:=⟨by kernel_rfl⟩
instance :Elm prog 40 185 3 24:=⟨by kernel_rfl,by decide⟩
instance :Typ prog 42 2 true:=⟨by kernel_rfl⟩
instance :Zer prog 42 [.v (.slice none 0 0), .v (.slice none 0 0)]:=⟨[.slice none 0 0, .slice none 0 0],by kernel_rfl,rfl,rfl⟩
instance :Plc prog 42 [(0,1),(1,1)]:=⟨by kernel_rfl⟩
instance :Fld prog 42 0 0 1:=⟨by kernel_rfl⟩
instance :Fld prog 42 1 1 1:=⟨by kernel_rfl⟩
instance :Typ prog 43 1 false:=⟨by kernel_rfl⟩
instance :Elm prog 43 29 14 144:=⟨by kernel_rfl,by decide⟩
instance :Typ prog 45 3 true:=⟨by kernel_rfl⟩
instance :Zer prog 45 [.v (.int .i64 0), .v (.int .i64 0), .v (.slice none 0 0)]:=⟨[.int .i64 0, .int .i64 0, .slice none 0 0],by kernel_rfl,rfl,rfl⟩
instance :Plc prog 45 [(0,1),(1,1),(2,1)]:=⟨by kernel_rfl⟩
instance :Fld prog 45 0 0 1:=⟨by kernel_rfl⟩
instance :Fld prog 45 1 1 1:=⟨by kernel_rfl⟩
instance :Fld prog 45 2 2 1:=⟨by kernel_rfl⟩
instance :Typ prog 47 5 true:=⟨by kernel_rfl⟩
instance :Zer prog 47 [.v (.slice none 0 0), .v (.slice none 0 0), .v (.int .i64 0), .v (.int .i64 0), .v (.slice none 0 0)]:=⟨[.slice none 0 0, .slice none 0 0, .int .i64 0, .int .i64 0, .slice none 0 0],by kernel_rfl,rfl,rfl⟩
instance :Plc prog 47 [(0,2),(2,3)]:=⟨by kernel_rfl⟩
instance :Fld prog 47 0 0 2:=⟨by kernel_rfl⟩
instance :Fld prog 47 1 2 3:=⟨by kernel_rfl⟩
instance :Typ prog 48 1 false:=⟨by kernel_rfl⟩
instance :Elm prog 48 248 7 64:=⟨by kernel_rfl,by decide⟩
instance :Typ prog 50 5 true:=⟨by kernel_rfl⟩
instance :Zer prog 50 [.v (.int .i64 0), .v (.int .i64 0), .v (.int .i64 0), .v (.slice none 0 0), .v (.slice none 0 0)]:=⟨[.int .i64 0, .int .i64 0, .int .i64 0, .slice none 0 0, .slice none 0 0],by kernel_rfl,rfl,rfl⟩
instance :Plc prog 50 [(0,1),(1,1),(2,1),(3,1),(4,1)]:=⟨by kernel_rfl⟩
instance :Fld prog 50 0 0 1:=⟨by kernel_rfl⟩
instance :Fld prog 50 1 1 1:=⟨by kernel_rfl⟩
instance :Fld prog 50 2 2 1:=⟨by kernel_rfl⟩
instance :Fld prog 50 3 3 1:=⟨by kernel_rfl⟩
instance :Fld prog 50 4 4 1:=⟨by kernel_rfl⟩
instance :Elm prog 54 83 8 96:=⟨by kernel_rfl,by decide⟩
instance :Typ prog 57 1 false:=⟨by kernel_rfl⟩
instance :Elm prog 57 4 1 1:=⟨by kernel_rfl,by decide⟩
instance :Typ prog 80 1 false:=⟨by kernel_rfl⟩
instance :Typ prog 81 1 false:=⟨by kernel_rfl⟩
instance :Elm prog 81 115 5 48:=⟨by kernel_rfl,by decide⟩
instance :Typ prog 83 8 true:=⟨by kernel_rfl⟩
instance :Zer prog 83 [.v (.int .i64 0), .v (.int .i64 0), .v (.int .u64 0), .v (.slice none 0 0), .v (.int .i64 0), .v (.string ⟨#[]⟩), .v (.int .i64 0), .v (.string ⟨#[]⟩)]:=⟨[.int .i64 0, .int .i64 0, .int .u64 0, .slice none 0 0, .int .i64 0, .string ⟨#[]⟩, .int .i64 0, .string ⟨#[]⟩],by kernel_rfl,rfl,rfl⟩
instance :Plc prog 83 [(0,1),(1,1),(2,1),(3,1),(4,1),(5,1),(6,1),(7,1)]:=⟨by kernel_rfl⟩
instance :Fld prog 83 0 0 1:=⟨by kernel_rfl⟩
instance :Fld prog 83 1 1 1:=⟨by kernel_rfl⟩
instance :Fld prog 83 2 2 1:=⟨by kernel_rfl⟩
instance :Fld prog 83 3 3 1:=⟨by kernel_rfl⟩
instance :Fld prog 83 4 4 1:=⟨by kernel_rfl⟩
instance :Fld prog 83 5 5 1:=⟨by kernel_rfl⟩
instance :Fld prog 83 6 6 1:=⟨by kernel_rfl⟩
instance :Fld prog 83 7 7 1:=⟨by kernel_rfl⟩
instance :Zer prog 105 [.v (.slice none 0 0), .v (.int .i64 0)]:=⟨[.slice none 0 0, .int .i64 0],by kernel_rfl,rfl,rfl⟩
instance :Plc prog 105 [(0,1),(1,1)]:=⟨by kernel_rfl⟩
instance :Fld prog 105 0 0 1:=⟨by kernel_rfl⟩
instance :Fld prog 105 1 1 1:=⟨by kernel_rfl⟩
instance :Typ prog 115 5 true:=⟨by kernel_rfl⟩
instance :Zer prog 115 [.v (.int .i64 0), .v (.int .i64 0), .v (.int .i64 0), .v (.string ⟨#[]⟩), .v (.int .i64 0)]:=⟨[.int .i64 0, .int .i64 0, .int .i64 0, .string ⟨#[]⟩, .int .i64 0],by kernel_rfl,rfl,rfl⟩
instance :Plc prog 115 [(0,1),(1,1),(2,1),(3,1),(4,1)]:=⟨by kernel_rfl⟩
instance :Fld prog 115 0 0 1:=⟨by kernel_rfl⟩
instance :Fld prog 115 1 1 1:=⟨by kernel_rfl⟩
instance :Fld prog 115 2 2 1:=⟨by kernel_rfl⟩
instance :Fld prog 115 3 3 1:=⟨by kernel_rfl⟩
instance :Fld prog 115 4 4 1:=⟨by kernel_rfl⟩
instance :Typ prog 121 13 true:=⟨by kernel_rfl⟩
instance :Zer prog 121 [.v (.string ⟨#[]⟩), .v (.string ⟨#[]⟩), .v (.int .i64 0), .v (.int .i64 0), .v (.string ⟨#[]⟩), .v (.int .i64 0), .v (.int .i64 0), .v (.int .i64 0), .v (.int .i64 0), .v (.int .i64 0), .v (.int .i64 0), .v (.int .i64 0), .v (.int .i64 0)]:=⟨[.string ⟨#[]⟩, .string ⟨#[]⟩, .int .i64 0, .int .i64 0, .string ⟨#[]⟩, .int .i64 0, .int .i64 0, .int .i64 0, .int .i64 0, .int .i64 0, .int .i64 0, .int .i64 0, .int .i64 0],by kernel_rfl,rfl,rfl⟩
instance :Plc prog 121 [(0,1),(1,1),(2,2),(4,1),(5,2),(7,1),(8,1),(9,1),(10,1),(11,1),(12,1)]:=⟨by kernel_rfl⟩
instance :Fld prog 121 4 5 2:=⟨by kernel_rfl⟩
instance :Fld prog 121 5 7 1:=⟨by kernel_rfl⟩
instance :Fld prog 121 6 8 1:=⟨by kernel_rfl⟩
instance :Fld prog 121 7 9 1:=⟨by kernel_rfl⟩
instance :Fld prog 121 8 10 1:=⟨by kernel_rfl⟩
instance :Fld prog 121 9 11 1:=⟨by kernel_rfl⟩
instance :Typ prog 125 1 false:=⟨by kernel_rfl⟩
instance :Typ prog 146 1 false:=⟨by kernel_rfl⟩
instance :Elm prog 146 151 8 88:=⟨by kernel_rfl,by decide⟩
instance :Typ prog 148 2 true:=⟨by kernel_rfl⟩
instance :Zer prog 148 [.v (.int .i64 0), .v (.slice none 0 0)]:=⟨[.int .i64 0, .slice none 0 0],by kernel_rfl,rfl,rfl⟩
instance :Plc prog 148 [(0,1),(1,1)]:=⟨by kernel_rfl⟩
instance :Fld prog 148 0 0 1:=⟨by kernel_rfl⟩
instance :Fld prog 148 1 1 1:=⟨by kernel_rfl⟩
instance :Typ prog 149 1 false:=⟨by kernel_rfl⟩
instance :Elm prog 149 234 2 24:=⟨by kernel_rfl,by decide⟩
instance :Typ prog 151 8 true:=⟨by kernel_rfl⟩
instance :Zer prog 151 [.v (.int .i64 0), .v (.int .i64 0), .v (.int .i64 0), .v (.int .i64 0), .v (.int .i64 0), .v (.int .i64 0), .v (.string ⟨#[]⟩), .v (.slice none 0 0)]:=⟨[.int .i64 0, .int .i64 0, .int .i64 0, .int .i64 0, .int .i64 0, .int .i64 0, .string ⟨#[]⟩, .slice none 0 0],by kernel_rfl,rfl,rfl⟩
instance :Plc prog 151 [(0,1),(1,1),(2,1),(3,1),(4,1),(5,1),(6,1),(7,1)]:=⟨by kernel_rfl⟩
instance :Fld prog 151 0 0 1:=⟨by kernel_rfl⟩
instance :Fld prog 151 1 1 1:=⟨by kernel_rfl⟩
instance :Fld prog 151 2 2 1:=⟨by kernel_rfl⟩
instance :Fld prog 151 3 3 1:=⟨by kernel_rfl⟩
instance :Fld prog 151 4 4 1:=⟨by kernel_rfl⟩
instance :Fld prog 151 5 5 1:=⟨by kernel_rfl⟩
instance :Fld prog 151 6 6 1:=⟨by kernel_rfl⟩
instance :Fld prog 151 7 7 1:=⟨by kernel_rfl⟩
instance :Typ prog 157 1 false:=⟨by kernel_rfl⟩
instance :Elm prog 157 200 8 72:=⟨by kernel_rfl,by decide⟩
instance :Zer prog 159 [.v (.slice none 0 0), .v (.slice none 0 0), .v (.int .i64 0), .v (.int .i64 0), .v (.slice none 0 0), .v (.int .i64 0), .v (.int .i64 0), .v (.int .i64 0), .v (.int .i64 0), .v (.int .i64 0), .v (.int .i64 0), .v (.int .i64 0), .v (.int .i64 0), .v (.int .i64 0), .v (.int .i64 0), .v (.string ⟨#[]⟩), .v (.string ⟨#[]⟩), .v (.slice none 0 0), .v (.bool false), .v (.int .i64 0), .v (.int .i64 0), .v (.int .i64 0), .v (.int .i64 0), .v (.int .i64 0), .v (.slice none 0 0), .v (.slice none 0 0), .v (.slice none 0 0), .v (.int .i64 0), .v (.int .i64 0), .v (.int .i64 0), .v (.slice none 0 0), .v (.slice none 0 0)]:=⟨[.slice none 0 0, .slice none 0 0, .int .i64 0, .int .i64 0, .slice none 0 0, .int .i64 0, .int .i64 0, .int .i64 0, .int .i64 0, .int .i64 0, .int .i64 0, .int .i64 0, .int .i64 0, .int .i64 0, .int .i64 0, .string ⟨#[]⟩, .string ⟨#[]⟩, .slice none 0 0, .bool false, .int .i64 0, .int .i64 0, .int .i64 0, .int .i64 0, .int .i64 0, .slice none 0 0, .slice none 0 0, .slice none 0 0, .int .i64 0, .int .i64 0, .int .i64 0, .slice none 0 0, .slice none 0 0],by kernel_rfl,rfl,rfl⟩
instance :Plc prog 159 [(0,5),(5,14),(19,7),(26,1),(27,5)]:=⟨by kernel_rfl⟩
instance :Fld prog 159 0 0 5:=⟨by kernel_rfl⟩
instance :Fld prog 159 1 5 14:=⟨by kernel_rfl⟩
instance :Fld prog 159 2 19 7:=⟨by kernel_rfl⟩
instance :Fld prog 159 3 26 1:=⟨by kernel_rfl⟩
instance :Fld prog 159 4 27 5:=⟨by kernel_rfl⟩
instance :Typ prog 185 3 true:=⟨by kernel_rfl⟩
instance :Zer prog 185 [.v (.int .i64 0), .v (.int .i64 0), .v (.int .i64 0)]:=⟨[.int .i64 0, .int .i64 0, .int .i64 0],by kernel_rfl,rfl,rfl⟩
instance :Plc prog 185 [(0,1),(1,2)]:=⟨by kernel_rfl⟩
instance :Fld prog 185 0 0 1:=⟨by kernel_rfl⟩
instance :Fld prog 185 1 1 2:=⟨by kernel_rfl⟩
instance :Typ prog 196 5 true:=⟨by kernel_rfl⟩
instance :Zer prog 196 [.v (.string ⟨#[]⟩), .v (.int .i64 0), .v (.int .i64 0), .v (.int .i64 0), .v (.int .i64 0)]:=⟨[.string ⟨#[]⟩, .int .i64 0, .int .i64 0, .int .i64 0, .int .i64 0],by kernel_rfl,rfl,rfl⟩
instance :Plc prog 196 [(0,1),(1,1),(2,1),(3,1),(4,1)]:=⟨by kernel_rfl⟩
instance :Fld prog 196 0 0 1:=⟨by kernel_rfl⟩
instance :Fld prog 196 1 1 1:=⟨by kernel_rfl⟩
instance :Fld prog 196 2 2 1:=⟨by kernel_rfl⟩
instance :Fld prog 196 3 3 1:=⟨by kernel_rfl⟩
instance :Fld prog 196 4 4 1:=⟨by kernel_rfl⟩
instance :Typ prog 200 8 true:=⟨by kernel_rfl⟩
instance :Zer prog 200 [.v (.int .i64 0), .v (.int .i64 0), .v (.string ⟨#[]⟩), .v (.int .i64 0), .v (.int .i64 0), .v (.bool false), .v (.bool false), .v (.string ⟨#[]⟩)]:=⟨[.int .i64 0, .int .i64 0, .string ⟨#[]⟩, .int .i64 0, .int .i64 0, .bool false, .bool false, .string ⟨#[]⟩],by kernel_rfl,rfl,rfl⟩
instance :Plc prog 200 [(0,2),(2,1),(3,2),(5,1),(6,1),(7,1)]:=⟨by kernel_rfl⟩
instance :Fld prog 200 0 0 2:=⟨by kernel_rfl⟩
instance :Fld prog 200 1 2 1:=⟨by kernel_rfl⟩
instance :Fld prog 200 2 3 2:=⟨by kernel_rfl⟩
instance :Fld prog 200 3 5 1:=⟨by kernel_rfl⟩
instance :Fld prog 200 4 6 1:=⟨by kernel_rfl⟩
instance :Fld prog 200 5 7 1:=⟨by kernel_rfl⟩
instance :Typ prog 234 2 true:=⟨by kernel_rfl⟩
instance :Zer prog 234 [.v (.string ⟨#[]⟩), .v (.int .i64 0)]:=⟨[.string ⟨#[]⟩, .int .i64 0],by kernel_rfl,rfl,rfl⟩
instance :Plc prog 234 [(0,1),(1,1)]:=⟨by kernel_rfl⟩
instance :Fld prog 234 0 0 1:=⟨by kernel_rfl⟩
instance :Fld prog 234 1 1 1:=⟨by kernel_rfl⟩
instance :Elm prog 236 196 5 48:=⟨by kernel_rfl,by decide⟩
instance :Zer prog 248 [.v (.int .i64 0), .v (.int .i64 0), .v (.string ⟨#[]⟩), .v (.int .i64 0), .v (.int .i64 0), .v (.int .i64 0), .v (.int .i64 0)]:=⟨[.int .i64 0, .int .i64 0, .string ⟨#[]⟩, .int .i64 0, .int .i64 0, .int .i64 0, .int .i64 0],by kernel_rfl,rfl,rfl⟩
instance :Plc prog 248 [(0,2),(2,1),(3,2),(5,2)]:=⟨by kernel_rfl⟩
instance :Fld prog 248 3 5 2:=⟨by kernel_rfl⟩
instance :Elm prog 274 125 1 8:=⟨by kernel_rfl,by decide⟩
instance :Typ prog 291 4 true:=⟨by kernel_rfl⟩
instance :Zer prog 291 [.v (.int .i64 0), .v (.int .i64 0), .v (.int .i64 0), .v (.int .i64 0)]:=⟨[.int .i64 0, .int .i64 0, .int .i64 0, .int .i64 0],by kernel_rfl,rfl,rfl⟩
instance :Plc prog 291 [(0,1),(1,2),(3,1)]:=⟨by kernel_rfl⟩
instance :Fld prog 291 0 0 1:=⟨by kernel_rfl⟩
instance :Fld prog 291 1 1 2:=⟨by kernel_rfl⟩
instance :Fun prog 12:=⟨by kernel_rfl⟩
instance :Fun prog 13:=⟨by kernel_rfl⟩
instance :Fun prog 14:=⟨by kernel_rfl⟩
instance :Fun prog 15:=⟨by kernel_rfl⟩
instance :Fun prog 16:=⟨by kernel_rfl⟩
instance :Fun prog 17:=⟨by kernel_rfl⟩
instance :Fun prog 18:=⟨by kernel_rfl⟩
instance :Fun prog 19:=⟨by kernel_rfl⟩
instance :Fun prog 21:=⟨by kernel_rfl⟩
instance :Fun prog 40:=⟨by kernel_rfl⟩
instance :Fun prog 47:=⟨by kernel_rfl⟩
instance :Fun prog 49:=⟨by kernel_rfl⟩
instance :Fun prog 50:=⟨by kernel_rfl⟩
instance :Fun prog 51:=⟨by kernel_rfl⟩
instance :Fun prog 56:=⟨by kernel_rfl⟩
instance :Fun prog 60:=⟨by kernel_rfl⟩
instance :Fun prog 61:=⟨by kernel_rfl⟩
instance :Fun prog 62:=⟨by kernel_rfl⟩
instance :Fun prog 63:=⟨by kernel_rfl⟩
instance :Fun prog 64:=⟨by kernel_rfl⟩
instance :Fun prog 65:=⟨by kernel_rfl⟩
instance :Fun prog 66:=⟨by kernel_rfl⟩
instance :Fun prog 76:=⟨by kernel_rfl⟩
instance :Fun prog 78:=⟨by kernel_rfl⟩
instance :Fun prog 81:=⟨by kernel_rfl⟩
instance :Fun prog 82:=⟨by kernel_rfl⟩
instance :Fun prog 83:=⟨by kernel_rfl⟩
instance :Fun prog 84:=⟨by kernel_rfl⟩
instance :Fun prog 85:=⟨by kernel_rfl⟩
instance :Fun prog 88:=⟨by kernel_rfl⟩
instance :Fun prog 89:=⟨by kernel_rfl⟩
instance :Fun prog 93:=⟨by kernel_rfl⟩
instance :Fun prog 94:=⟨by kernel_rfl⟩
instance :Fun prog 95:=⟨by kernel_rfl⟩
instance :Fun prog 96:=⟨by kernel_rfl⟩
instance :Fun prog 97:=⟨by kernel_rfl⟩
instance :Fun prog 98:=⟨by kernel_rfl⟩
instance :Fun prog 99:=⟨by kernel_rfl⟩
instance :Fun prog 100:=⟨by kernel_rfl⟩
instance :Fun prog 102:=⟨by kernel_rfl⟩
instance :Fun prog 104:=⟨by kernel_rfl⟩
instance :Fun prog 105:=⟨by kernel_rfl⟩
instance :Fun prog 107:=⟨by kernel_rfl⟩
instance :Fun prog 109:=⟨by kernel_rfl⟩
instance :Fun prog 110:=⟨by kernel_rfl⟩
instance :Fun prog 111:=⟨by kernel_rfl⟩
instance :Fun prog 112:=⟨by kernel_rfl⟩
instance :Fun prog 113:=⟨by kernel_rfl⟩
instance :Fun prog 114:=⟨by kernel_rfl⟩
instance :Fun prog 115:=⟨by kernel_rfl⟩
instance :Fun prog 116:=⟨by kernel_rfl⟩
instance :Fun prog 117:=⟨by kernel_rfl⟩
instance :Fun prog 123:=⟨by kernel_rfl⟩
instance :Fun prog 124:=⟨by kernel_rfl⟩
instance :Fun prog 125:=⟨by kernel_rfl⟩
instance :Fun prog 126:=⟨by kernel_rfl⟩
instance :Fun prog 127:=⟨by kernel_rfl⟩
instance :Fun prog 129:=⟨by kernel_rfl⟩
instance :Fun prog 134:=⟨by kernel_rfl⟩
instance :Fun prog 136:=⟨by kernel_rfl⟩
instance :Fun prog 137:=⟨by kernel_rfl⟩
instance :Fun prog 138:=⟨by kernel_rfl⟩
instance :Fun prog 139:=⟨by kernel_rfl⟩
instance :Fun prog 140:=⟨by kernel_rfl⟩
instance :Fun prog 141:=⟨by kernel_rfl⟩
instance :Fun prog 142:=⟨by kernel_rfl⟩
instance :Fun prog 143:=⟨by kernel_rfl⟩
instance :Fun prog 144:=⟨by kernel_rfl⟩
instance :Fun prog 145:=⟨by kernel_rfl⟩
instance :Fun prog 146:=⟨by kernel_rfl⟩
instance :Fun prog 147:=⟨by kernel_rfl⟩
instance :Fun prog 148:=⟨by kernel_rfl⟩
instance :Fun prog 149:=⟨by kernel_rfl⟩
instance :Fun prog 150:=⟨by kernel_rfl⟩
instance :Fun prog 151:=⟨by kernel_rfl⟩
instance :Fun prog 152:=⟨by kernel_rfl⟩
instance :Fun prog 154:=⟨by kernel_rfl⟩
instance :Fun prog 155:=⟨by kernel_rfl⟩
instance :Fun prog 156:=⟨by kernel_rfl⟩
instance :Fun prog 157:=⟨by kernel_rfl⟩
instance :Fun prog 158:=⟨by kernel_rfl⟩
instance :Fun prog 159:=⟨by kernel_rfl⟩
instance :Fun prog 160:=⟨by kernel_rfl⟩
instance :Fun prog 161:=⟨by kernel_rfl⟩
instance :Fun prog 162:=⟨by kernel_rfl⟩
instance :Fun prog 163:=⟨by kernel_rfl⟩
instance :Fun prog 164:=⟨by kernel_rfl⟩
instance :Fun prog 165:=⟨by kernel_rfl⟩
instance :Fun prog 166:=⟨by kernel_rfl⟩
instance :Fun prog 167:=⟨by kernel_rfl⟩
instance :Fun prog 168:=⟨by kernel_rfl⟩
instance :Fun prog 172:=⟨by kernel_rfl⟩
instance :Fun prog 173:=⟨by kernel_rfl⟩
instance :Fun prog 174:=⟨by kernel_rfl⟩
instance :Fun prog 175:=⟨by kernel_rfl⟩
instance :Fun prog 176:=⟨by kernel_rfl⟩
instance :Fun prog 177:=⟨by kernel_rfl⟩
instance :Fun prog 179:=⟨by kernel_rfl⟩
instance :Fun prog 180:=⟨by kernel_rfl⟩
instance :Fun prog 181:=⟨by kernel_rfl⟩
instance :Fun prog 182:=⟨by kernel_rfl⟩
instance :Fun prog 183:=⟨by kernel_rfl⟩
instance :Fun prog 185:=⟨by kernel_rfl⟩
instance :Fun prog 189:=⟨by kernel_rfl⟩
instance :Fun prog 190:=⟨by kernel_rfl⟩
instance :Fun prog 191:=⟨by kernel_rfl⟩
instance :Fun prog 192:=⟨by kernel_rfl⟩
instance :Fun prog 193:=⟨by kernel_rfl⟩
instance :Fun prog 194:=⟨by kernel_rfl⟩
instance :Fun prog 195:=⟨by kernel_rfl⟩
instance :Fun prog 196:=⟨by kernel_rfl⟩
instance :Fun prog 197:=⟨by kernel_rfl⟩
instance :Fun prog 198:=⟨by kernel_rfl⟩
instance :Fun prog 199:=⟨by kernel_rfl⟩
instance :Fun prog 200:=⟨by kernel_rfl⟩
instance :Fun prog 201:=⟨by kernel_rfl⟩
instance :Fun prog 202:=⟨by kernel_rfl⟩
instance :Fun prog 203:=⟨by kernel_rfl⟩
instance :Fun prog 204:=⟨by kernel_rfl⟩
instance :Fun prog 205:=⟨by kernel_rfl⟩
instance :Fun prog 206:=⟨by kernel_rfl⟩
instance :Fun prog 207:=⟨by kernel_rfl⟩
instance :Fun prog 208:=⟨by kernel_rfl⟩
instance :Fun prog 209:=⟨by kernel_rfl⟩
instance :Fun prog 210:=⟨by kernel_rfl⟩
instance :Fun prog 211:=⟨by kernel_rfl⟩
instance :Fun prog 212:=⟨by kernel_rfl⟩
instance :Fun prog 213:=⟨by kernel_rfl⟩
instance :Fun prog 214:=⟨by kernel_rfl⟩
instance :Fun prog 215:=⟨by kernel_rfl⟩
instance :Fun prog 216:=⟨by kernel_rfl⟩
instance :Fun prog 217:=⟨by kernel_rfl⟩
instance :Fun prog 218:=⟨by kernel_rfl⟩
instance :Fun prog 219:=⟨by kernel_rfl⟩
instance :Fun prog 220:=⟨by kernel_rfl⟩
instance :Fun prog 221:=⟨by kernel_rfl⟩
instance :Fun prog 222:=⟨by kernel_rfl⟩
instance :Fun prog 223:=⟨by kernel_rfl⟩
instance :Fun prog 224:=⟨by kernel_rfl⟩
instance :Fun prog 225:=⟨by kernel_rfl⟩
instance :Fun prog 230:=⟨by kernel_rfl⟩
instance :Fun prog 231:=⟨by kernel_rfl⟩
instance :Fun prog 232:=⟨by kernel_rfl⟩
instance :Fun prog 233:=⟨by kernel_rfl⟩
instance :Fun prog 234:=⟨by kernel_rfl⟩
instance :Fun prog 235:=⟨by kernel_rfl⟩
instance :Fun prog 236:=⟨by kernel_rfl⟩
instance :Fun prog 237:=⟨by kernel_rfl⟩
instance :Fun prog 248:=⟨by kernel_rfl⟩
instance :Fun prog 249:=⟨by kernel_rfl⟩
instance :Fun prog 250:=⟨by kernel_rfl⟩
instance :Fun prog 251:=⟨by kernel_rfl⟩
instance :Fun prog 252:=⟨by kernel_rfl⟩
instance :Fun prog 253:=⟨by kernel_rfl⟩
instance :Fun prog 254:=⟨by kernel_rfl⟩
instance :Fun prog 257:=⟨by kernel_rfl⟩
instance :Fun prog 258:=⟨by kernel_rfl⟩
end Go.Proofs.YtbgnigjfkbmceaaGreatDoor
namespace Go.Proofs.YtbgnigjfkbmceaaGreatDoor
abbrev AT:=ByteArray
abbrev AQ:=Int×Int
abbrev Bc:=AT×Int
abbrev D9:=Int×AQ
abbrev J3:=AQ×AT×AQ×AQ
structure Nod where
 ino:Int
 kind:Int
 mode:Int
 uid:Int
 gid:Int
 parent:Int
 target:AT
 entries:List Bc
structure Dvc where
 next:Int
 nodes:List Nod
abbrev Aj:=List Dvc
structure Spc where
 files:Aj
 mounts:List D9
def Nod.zero:Nod:=⟨0,0,0,0,0,0,⟨#[]⟩,[]⟩
def K8{α:Type}(p:α→Bool)(l:List α):Int:=
 match l.findIdx? p with
 |some i=>(i:Int)
 |none=> -1
def EG{α:Type}(l:List α)(i:Int):Option α:=if i<0 then none else l[i.toNat]?
theorem Ki{α:Type}(l:List α)(k:Nat):EG l (k:Int)=l[k]?:=by
 simp[EG,show¬((k:Int)<0) by omega]
theorem S4{α:Type}{l:List α}{i:Int}(h:i<0∨(l.length:Int)≤i):EG l i=none:=by
 unfold EG;split
 ·rfl
 rw[List.getElem?_eq_none];omega
theorem Wx{α:Type}{l:List α}{i:Int}{x:α}(h:EG l i=some x):0≤i∧i<l.length∧l[i.toNat]?=some x:=by
 unfold EG at h;split at h
 ·cases h
 have:=(At.1 h).1;exact⟨by omega,by omega,h⟩
theorem S5{α:Type}{p:α→Bool}{l:List α}{m:Nat}{x:α}(hx:l[m]?=some x)(hp:p x=true)(h:∀j y,j<m→l[j]?=some y→p y=false):l.findIdx? p=some m:=by
 have hl:m<l.length:=(At.1 hx).1;rw[List.findIdx?_eq_some_iff_getElem];refine⟨hl,by rw[(At.1 hx).2];exact hp,fun j hj=>?_⟩;have:=h j l[j] hj (BJ _);simp[this]
theorem S6{α:Type}{p:α→Bool}{l:List α}{m:Nat}{x:α}(hx:l[m]?=some x)(hp:p x=true)(h:∀j y,j<m→l[j]?=some y→p y=false):K8 p l=m:=by
 unfold K8;rw[S5 hx hp h]
theorem Wy{α:Type}{p:α→Bool}{l:List α}(h:∀j y,j<l.length→l[j]?=some y→p y=false):K8 p l= -1:=by
 unfold K8;rw[List.findIdx?_eq_none_iff.2];intro x hx;obtain⟨j,hj,rfl⟩:=List.mem_iff_getElem.1 hx;exact h j _ hj (BJ hj)
theorem F8{α:Type}{P:α→Prop}{l:List α}{m:Nat}{x:α}(hx:l[m]?=some x)(h:∀j y,j<m→l[j]?=some y→P y)(hp:P x):∀j y,j<m+1→l[j]?=some y→P y:=by
 intro j y hj hy;by_cases e:j=m
 ·subst e;rw[hx]at hy;cases hy;exact hp
 exact h j y (by omega) hy
def FL(f:Aj)(at_:AQ):Int:=
 match EG f at_.1 with
 |none=> -1
 |some d=>K8 (fun n:Nod=>n.ino==at_.2) d.nodes
def CR(f:Aj)(at_:AQ):Option Nod:=
 match EG f at_.1 with
 |none=>none
 |some d=>d.nodes.find? (fun n:Nod=>n.ino==at_.2)
theorem S7{α:Type}{p:α→Bool}{l:List α}:(l.findIdx? p).bind (fun i=>l[i]?)=l.find? p:=by
 cases h:l.findIdx? p with
 |none=>
   rw[List.findIdx?_eq_none_iff]at h;simp only[Option.bind_none];exact(List.find?_eq_none.2 (fun x hx=>by simp[h x hx])).symm
 |some i=>
   obtain⟨hi,hp,hf⟩:=List.findIdx?_eq_some_iff_getElem.1 h;simp only[Option.bind_some,BJ hi];exact(List.find?_eq_some_iff_getElem.2 ⟨hp,i,hi,rfl,fun j hj=>by simpa using hf j hj⟩).symm
theorem J4(f:Aj)(at_:AQ):(FL f at_= -1∧CR f at_=none)∨
    ∃(k i:Nat) (d:Dvc) (n:Nod),at_.1=k∧f[k]?=some d∧d.nodes[i]?=some n∧n.ino=at_.2∧FL f at_=i∧CR f at_=some n:=by
 unfold FL CR
 cases h:EG f at_.1 with
 |none=>exact .inl ⟨rfl,rfl⟩
 |some d=>
   obtain⟨h0,h1,h2⟩:=Wx h;simp only[←S7];unfold K8
   cases hi:d.nodes.findIdx? (fun n:Nod=>n.ino==at_.2)with
   |none=>exact .inl ⟨rfl,rfl⟩
   |some i=>
     obtain⟨hl,hp,_⟩:=List.findIdx?_eq_some_iff_getElem.1 hi;exact .inr ⟨at_.1.toNat,i,d,d.nodes[i],by omega,h2,BJ hl,by simpa using hp,rfl,by simp⟩
theorem NZ(a b:AT):(a.toList==b.toList)=decide (a=b):=by
 rw[ByteArray.toList_eq,ByteArray.toList_eq,Bool.eq_iff_iff];simp only[beq_iff_eq,decide_eq_true_eq];constructor
 ·intro h
  cases a with
  |mk a=>
    cases b with
    |mk b=>exact congrArg ByteArray.mk (Array.toList_inj.1 h)
 intro h;rw[h]
def J5(c:UInt8):Bool:= !((c.toNat:Int)==0)&& !((c.toNat:Int)==47)
def FM(s:AT):Bool:=
 if s.size<1∨12<s.size then false else if(s.toList==[46])=true then false else if(s.toList==[46,46])=true then false else s.data.toList.all J5
def Kj(s:AT):Bool:=s.data.toList.all (fun c=> !((c.toNat:Int)==0))&&decide (1≤s.size)&&decide (s.size≤128)
theorem S8{p:UInt8→Bool}{s:AT}(h:∀j (hj:j<s.size),p s[j]=true):s.data.toList.all p=true:=by
 rw[List.all_eq_true];intro c hc;obtain⟨j,hj,rfl⟩:=List.mem_iff_getElem.1 hc;exact h j (by simpa using hj)
theorem PG{p:UInt8→Bool}{s:AT}{j:Nat}(hj:j<s.size)(h:p s[j]=false):s.data.toList.all p=false:=by
 rw[List.all_eq_false];refine⟨s[j],?_,by simp[h]⟩;have:s[j]=s.data.toList[j]'(by simpa using hj):=rfl;rw[this];exact List.getElem_mem _
theorem S9{p:UInt8→Bool}{s:AT}{m:Nat}(hm:m<s.size)(h:∀j (hj:j<s.size),j<m→p s[j]=true)(hp:p s[m]=true):∀j (hj:j<s.size),j<m+1→p s[j]=true:=by
 intro j hj hlt;by_cases e:j=m
 ·subst e;exact hp
 exact h j hj (by omega)
def Ay(f:Aj)(at_:AQ):Bool:=
 match CR f at_ with
 |none=>false
 |some n=>n.kind==2
def CC(f:Aj)(dir:AQ)(name:AT):Int:=
 match CR f dir with
 |none=>2
 |some n=>if n.kind=2 then(if FM name then 0 else 22)else 20
def J6(f:Aj)(dir:AQ):Bool:=
 match CR f dir with
 |none=>false
 |some n=>decide (12≤n.entries.length)
def Jc(f:Aj)(dir:AQ):Bool:=
 match CR f dir with
 |none=>true
 |some n=>decide (n.entries.length=0)
def AZ(f:Aj)(dir:AQ)(name:AT):AQ×Int:=
 match CR f dir with
 |none=>((0,0),2)
 |some n=>if n.kind=2 then
     match n.entries.find? (fun e:Bc=>decide (e.1=name))with
     |none=>((0,0),2)
     |some e=>((dir.1,e.2),0)
   else((0,0),20)
def FN(n:Nod):Bool:=
 if n.kind<1∨3<n.kind∨n.mode<0∨511<n.mode∨n.uid<0∨4294967295<n.uid∨n.gid<0∨4294967295<n.gid then false
 else if n.kind=3 then Kj n.target else n.target.toList.isEmpty
end Go.Proofs.YtbgnigjfkbmceaaGreatDoor
namespace Go.Proofs.YtbgnigjfkbmceaaGreatDoor
def F9(a b:AT):Bool:=Op.bytesLess a.toList b.toList
def Fm(name:AT)(ino:Int):Bool→List Bc→List Bc
 |done,[]=>if done then[]else[(name,ino)]
 |done,e::r=>
   (if !done&& !F9 e.1 name then[(name,ino)]else[])++((if e.1=name then[]else[e])++Fm name ino (done|| !F9 e.1 name) r)
def Cb(es:List Bc)(name:AT)(ino:Int):List Bc:=Fm name ino (ino==0) es
def Cm(ino:Int)(es:List Bc):Nat:=es.countP fun e:Bc=>e.2==ino
def Bn(ino:Int)(ns:List Nod):Nat:=Cm ino (ns.flatMap fun n=>n.entries)
def GZ(f:Aj)(at_:AQ):Nat:=
 match CR f at_,EG f at_.1 with
 |some _,some d=>Bn at_.2 d.nodes
 |_,_=>0
theorem Na{ino:Int}{es:List Bc}{k:Nat}{e:Bc}(h:es[k]?=some e):Cm ino (es.take (k+1))=Cm ino (es.take k)+(if e.2==ino then 1 else 0):=by
 unfold Cm;rw[List.take_add_one,h,List.countP_append];simp[List.countP_cons]
theorem Wz(ino:Int)(es:List Bc):Cm ino es≤es.length:=List.countP_le_length
theorem X0{ino:Int}{ns:List Nod}{m:Nat}{n:Nod}(h:ns[m]?=some n):Bn ino (ns.take (m+1))=Bn ino (ns.take m)+Cm ino n.entries:=by
 unfold Bn Cm;rw[List.take_add_one,h,List.flatMap_append,List.countP_append];simp
def Cn(ino:Int)(ns:List Nod):List Nod:=ns.filter fun n=>n.ino != ino
def Nb:Nod:=⟨1,2,493,0,0,1,⟨#[]⟩,[]⟩
def Kk:Dvc:=⟨2,[Nb]⟩
def Eh(n:Int):Aj×Int:=if n<1∨3<n then([],50)else(List.replicate n.toNat Kk,0)
abbrev Dm:=Aj×List J3×Int
def EV(n:Nod)(next dirIno:Int):Nod:=⟨next,n.kind,n.mode,n.uid,n.gid,if n.kind=2 then dirIno else 0,n.target,[]⟩
end Go.Proofs.YtbgnigjfkbmceaaGreatDoor
namespace Go.Proofs.YtbgnigjfkbmceaaGreatDoor
open Go.RowKit
theorem C1{α:Type}(enc:α→List AV){l:List α}{k:Nat}(h:(k:Int)<((l.map enc).length:Int)):k<l.length∧∃x,l[k]?=some x∧(l.map enc)[k]?=some (enc x)∧(l.take (k+1)).map enc=(l.take k).map enc++[enc x]:=by
 have hk:k<l.length:=by simpa using h
 refine⟨hk,l[k],BJ hk,by simp[hk],?_⟩;rw[List.take_succ_eq_append_getElem hk,List.map_append];rfl
theorem CA{α:Type}(enc:α→List AV){l:List α}{k:Nat}(hk:k≤l.length)(h:¬(k:Int)<((l.map enc).length:Int)):k=l.length:=by
 simp at h;omega
theorem vb{a b:Bool}(h:a=b):AV.v (.bool a)=AV.v (.bool b):=by rw[h]
theorem vi{k:IntKind}{a b:Int}(h:a=b):AV.v (.int k a)=AV.v (.int k b):=by rw[h]
def AN(x:AQ):List AV:=[.v (.int .i64 x.1), .v (.int .i64 x.2)]
def FA(e:Bc):List AV:=[.v (.string e.1), .v (.int .i64 e.2)]
def Am(n:Nod):List AV:=[.v (.int .i64 n.ino), .v (.int .i64 n.kind), .v (.int .i64 n.mode), .v (.int .i64 n.uid), .v (.int .i64 n.gid), .v (.int .i64 n.parent), .v (.string n.target), .sl 2 (n.entries.map FA) none]
def Cc(d:Dvc):List AV:=[.v (.int .i64 d.next), .sl 8 (d.nodes.map Am) none]
def B0(f:Aj):List AV:=[.sl 2 (f.map Cc) none]
structure FlsB(f:Aj):Prop where
 few:f.length≤1000
 nodes:∀d∈f,d.nodes.length≤1000
 ents:∀d∈f,∀n∈d.nodes,n.entries.length≤1000
theorem PH{f:Aj}{a:AQ}{k:Nat}{d:Dvc}(hk:a.1=(k:Int))(hd:f[k]?=some d):FL f a=K8 (fun n:Nod=>n.ino==a.2) d.nodes:=by
 unfold FL;rw[hk,Ki,hd]
def B5(f:Aj)(a:AQ):Nod:=(CR f a).getD Nod.zero
def Dz(f:Aj)(a:AQ):Bool:=(CR f a).isSome
theorem Lj(f:Aj)(a:AQ):Ay f a=(Dz f a&&decide ((B5 f a).kind=2)):=by
 unfold Ay Dz B5;cases CR f a<;>simp[On]
theorem SA{f:Aj}(hf:FlsB f)(a:AQ):(B5 f a).entries.length≤1000:=by
 rcases J4 f a with⟨-,h⟩|⟨k,i,d,n, -,h1,h2, -, -,h⟩
 ·simp[B5,h,Nod.zero]
 simp only[B5,h,Option.getD_some];exact hf.ents d (Aw h1) n (Aw h2)
section
theorem Jd(f:Aj)(a:AQ)(hf:FlsB f):AFn prog 179 [.agg (B0 f), .agg (AN a)] (fun r=>r= .v (.int .i64 (FL f a))):=by
 refine enter Tryz.func179 rfl rfl rfl rfl rfl 0 rfl ?_;refine w_ (b_ (h:=b_ (h:=a_ (h:=e_ (q_ (w_ (f_ (h:=l_ (h:=BB (h:=m_ (h:=?_)))))))))));refine AW false rfl rfl (fun hb1=>?_) (fun hb1=>?_)
 ·have hc1:=bp hb1;refine A3 (h:=A3 (h:=A3 (h:=A3 (h:=A3 (h:=A3 (h:=AF (h:=e_ (B8 (h:=w_ (a_ (h:=e_ (A4 (A6 (?_))))))))))))));refine A9 ?_;exact vi (by unfold FL;rw[S4 (.inl hc1)])
 have hc1:=bp hb1;refine f_ (h:=l_ (h:=f_ (h:=l_ (h:=n_ (h:=Cw (h:=AM (h:=e_ (?_))))))));refine A8 rfl (fun hb2=>?_) (fun hb2=>?_)
 ·have hc2:=bp hb2;refine w_ (a_ (h:=e_ (A4 (A6 (?_)))));refine A9 ?_;exact vi (by unfold FL;rw[S4 (.inr (by rw[List.length_map]at hc2;exact hc2))])
 have hc2:=bp hb2;obtain⟨k,hk⟩:=Int.eq_ofNat_of_zero_le (show 0≤a.1 by omega);rw[hk]at hc2;obtain⟨-,d,hd,hrow, -⟩:=C1 Cc (l:=f) (k:=k) (by omega);have hdn:=hf.nodes d (Aw hd);refine AB (w_ (f_ (h:=l_ (h:=f_ (h:=l_ (h:=?_))))));refine A7 rfl (Cl (n:=k) rfl rfl hk hrow ?_);refine f_ (h:=l_ (h:=a_ (h:=e_ (q_ (w_ (a_ (h:=e_ (Ag (?_)))))))));refine Be (fun m s=>∃j:Nat,j≤d.nodes.length∧m=d.nodes.length - j∧(∀i y,i<j→d.nodes[i]?=some y→(y.ino==a.2)=false)∧s=⟨look [(3, .bp 1 0),(5, .sl 8 (d.nodes.map Am) none),(6, .v (.int .i64 (j:Int)))],⟨[B0 f,AN a],[]⟩⟩) (d.nodes.length) ((wk 2 0)) (⟨0,by omega,rfl,fun i y hi=>by omega,rfl⟩) ?_;rintro m s ⟨j,hj,rfl,ha,rfl⟩;refine q_ (w_ (m_ (h:=m_ (h:=n_ (h:=BB (h:=e_ (?_)))))));refine A8 rfl (fun hb3=>?_) (fun hb3=>?_)
 ·have hc3:=bp hb3;obtain⟨hlt,n,hy,hrow2, -⟩:=C1 Am hc3;refine AB (q_ (Ag (q_ (Cp 8 (h:=AU 0 (h:=AU 1 (h:=Cg 2 (h:=AO 3 (h:=AJ 4 (h:=AO 5 (h:=AJ 6 (h:=H3 7 (h:=z_ (h:=t_ (?_)))))))))))))));refine A8 rfl (fun hb4=>?_) (fun hb4=>?_)
  ·have hc4:=bp hb4;refine w_ (m_ (h:=a_ (h:=e_ (A4 (AK (A6 (A6 (AK (A6 (?_))))))))));refine A9 ?_;exact vi (by rw[PH hk hd];exact(S6 hy (by simpa using hc4) ha).symm)
  have hc4:=bp hb4;refine Au (Ah (t_ (AR (m_ (h:=BD (h:=a_ (h:=AP (?_))))))));refine AE ?_;refine⟨_,_,?_,⟨j+1,by omega,rfl,F8 hy ha (by simpa using hc4),rfl⟩,(wk 2 0)⟩;omega
 have hc3:=bp hb3;have e:=CA Am hj hc3;subst e;refine BT (Ao (Ao (BU (t_ (w_ (a_ (h:=e_ (A4 (?_)))))))));refine A9 ?_;exact vi (by rw[PH hk hd];exact(Wy (fun i y hi hy=>ha i y hi hy)).symm)
theorem E0(f:Aj)(a:AQ)(hf:FlsB f):AFn prog 123 [.agg (B0 f), .agg (AN a)] (fun r=>r= .tup [.agg (Am (B5 f a)), .v (.bool (Dz f a))]):=by
 refine enter Tryz.func123 rfl rfl rfl rfl rfl 0 rfl ?_;refine w_ (b_ (h:=b_ (h:=Al (h:=a_ (h:=e_ (w_ (l_ (h:=l_ (h:=?_)))))))));refine A7 rfl (AG (Jd f a hf) ?_);rintro r rfl;refine a_ (h:=e_ (q_ (w_ (m_ (h:=BB (h:=e_ (?_)))))));refine A8 rfl (fun hb1=>?_) (fun hb1=>?_)
 ·have hc1:=bp hb1
  have e:CR f a=none:=by
   rcases J4 f a with h|⟨k,i,d,n, -, -, -, -,h, -⟩
   ·exact h.2
   exfalso;omega
  refine w_ (Ak (h:=s_ (h:=a_ (h:=e_ (A4 (A6 (?_)))))));refine Ai (r:= .tup [.agg (Am (B5 f a)), .v (.bool (Dz f a))]) none (h5:=?_) (h6:=⟨rfl,rfl,rfl⟩);rw[show B5 f a=Nod.zero by simp[B5,e],show Dz f a=false by simp[Dz,e]];exact(by repeat (first|exact AA _|exact LeA.nil _|exact LeL.refl _|refine LeA.agg ?_|refine LeA.tup ?_|exact LeL.nil|refine LeL.cons ?_ ?_|exact LeA.any _))
 have hc1:=bp hb1;obtain⟨k,i,d,n,g1,g2,g3,g4,g5,g6⟩:=(J4 f a).resolve_left (fun h=>by omega);rw[g5];have hr1:(f.map Cc)[k]?=some (Cc d):=by rw[List.getElem?_map,g2];rfl
 have hr2:(d.nodes.map Am)[i]?=some (Am n):=by rw[List.getElem?_map,g3];rfl
 have hen:=hf.ents d (Aw g2) n (Aw g3);refine AB (w_ (f_ (h:=l_ (h:=f_ (h:=l_ (h:=?_))))));refine A7 rfl (Cl (n:=k) rfl rfl g1 hr1 ?_);refine f_ (h:=l_ (h:=m_ (h:=?_)));refine A7 rfl (Cl (n:=i) rfl rfl rfl hr2 ?_);refine l_ (h:=Al (h:=s_ (h:=e_ (w_ (f_ (h:=l_ (h:=?_)))))))
 first|refine A7 rfl (Dx rfl rfl rfl (by simp;omega) (by repeat constructor) ?_)|refine A7 rfl (Dy rfl rfl (by simp;omega) (by repeat constructor) ?_)
 refine f_ (h:=s_ (h:=e_ (w_ (l_ (h:=s_ (h:=a_ (h:=e_ (A4 (?_)))))))));refine A9 ?_;rw[show B5 f a=n by simp[B5,g6],show Dz f a=true by simp[Dz,g6]];rfl
theorem Hd(f:Aj)(a:AQ)(hf:FlsB f):AFn prog 185 [.agg (B0 f), .agg (AN a)] (fun r=>r= .v (.bool (Ay f a))):=by
 refine enter Tryz.func185 rfl rfl rfl rfl rfl 0 rfl ?_;refine w_ (b_ (h:=b_ (h:=a_ (h:=e_ (w_ (l_ (h:=l_ (h:=?_))))))));refine A7 rfl (AG (E0 f a hf) ?_);rintro r rfl;refine m_ (h:=x_ (h:=x_ (h:=Al (h:=s_ (h:=a_ (h:=e_ (w_ (m_ (h:=m_ (h:=?_))))))))));refine AW true rfl rfl (fun hb1=>?_) (fun hb1=>?_)
 ·have hc1:=bp hb1;refine f_ (h:=l_ (h:=AD (h:=AF (h:=a_ (h:=e_ (A4 (?_)))))));refine A9 ?_;exact vb (by rw[Lj];simp[*])
 have hc1:=bp hb1;refine A3 (h:=A3 (h:=A3 (h:=AM (h:=a_ (h:=e_ (A4 (?_)))))));refine A9 ?_;exact vb (by rw[Lj];simp[*])
end
end Go.Proofs.YtbgnigjfkbmceaaGreatDoor
namespace Go.Proofs.YtbgnigjfkbmceaaGreatDoor
structure Tst where
 fld:Int
 op:Int
 num:Int
 text:AT
 other:Int
structure Rul where
 list:Int
 action:Int
 calls:Int
 tests:List Tst
 watch:Int
 path:AT
 perm:Int
 key:AT
structure Itm where
 given:AT
 path:AT
 dir:AQ
 name:AT
 file:AQ
 role:Int
 kind:Int
 mode:Int
 uid:Int
 gid:Int
 perm:Int
structure Ctx where
 phase:Int
 pid:Int
 ppid:Int
 uid:Int
 euid:Int
 gid:Int
 egid:Int
 auid:Int
 ses:Int
 cwd:AQ
 comm:AT
 exe:AT
 audited:Bool
 number:Int
 a0:Int
 a1:Int
 a2:Int
 a3:Int
 ext:Int
 items:List Itm
 typ:Int
def Itm.zero:Itm:=⟨⟨#[]⟩,⟨#[]⟩,(0,0),⟨#[]⟩,(0,0),0,0,0,0,0,0⟩
def CL(f:Int):Bool:=decide (1≤f∧f≤8∨f=13∨f=14)
def Dc(list f:Int):Bool:=
 if list=1∨list=4 then CL f
 else if list=2 then decide (1≤f∧f≤14)
 else if list=3 then decide (1≤f∧f≤21)
 else if list=5 then decide (1≤f∧f≤8∨f=13∨f=14∨f=22)
 else false
def DW(f:Int):Bool:=decide (f=13∨f=14)
def Dd(f:Int):Bool:=decide (f=3∨f=4∨f=5∨f=6∨f=7∨f=19∨f=20)
def EH(f:Int):Bool:=decide (17≤f∧f≤21)
def Bg(t:Tst)(list:Int):Int:=
 if Dc list t.fld=false∨t.other≠0∧(Dc list t.other=false∨Dd t.fld=false∨Dd t.other=false)then 120
 else if t.op<1∨8<t.op∨2<t.op∧(DW t.fld=true∨t.other≠0)then 121
 else if t.other≠0∧(t.num≠0∨t.text.size≠0)then 122
 else if DW t.fld=true∧(t.num≠0∨t.text.size=0∨640<t.text.size)then 122
 else if DW t.fld=false∧t.text.size≠0 then 122
 else 0
def Bq(f:Int)(c:Ctx)(y:Itm):Int:=
 if f=1 then c.pid else if f=2 then c.ppid else if f=3 then c.uid else if f=4 then c.euid else if f=5 then c.gid else if f=6 then c.egid
 else if f=7 then c.auid else if f=8 then c.ses else if f=9 then c.a0 else if f=10 then c.a1 else if f=11 then c.a2 else if f=12 then c.a3
 else if f=15 then c.ext else if f=16 then(if 0≤c.ext then 1 else 0)else if f=17 then y.file.2 else if f=18 then y.file.1
 else if f=19 then y.uid else if f=20 then y.gid else if f=21 then y.kind else c.typ
def Bu(f:Int)(c:Ctx):Bool:=
 if 1≤f∧f≤12 then true else if f=22 then decide (c.typ≠0)else if 15≤f∧f≤21 then decide (c.phase=2)else false
def DX(f:Int)(c:Ctx):Bool:=
 if 15≤f∧f≤21 then decide (c.phase=2)else decide (f≠22∨c.typ≠0)
end Go.Proofs.YtbgnigjfkbmceaaGreatDoor
namespace Go.Proofs.YtbgnigjfkbmceaaGreatDoor
open Go.RowKit
def C3(t:Tst):List AV:=[.v (.int .i64 t.fld), .v (.int .i64 t.op), .v (.int .i64 t.num), .v (.string t.text), .v (.int .i64 t.other)]
def Az(r:Rul):List AV:=[.v (.int .i64 r.list), .v (.int .i64 r.action), .v (.int .u64 r.calls), .sl 5 (r.tests.map C3) none, .v (.int .i64 r.watch), .v (.string r.path), .v (.int .i64 r.perm), .v (.string r.key)]
def Ga(y:Itm):List AV:=[.v (.string y.given), .v (.string y.path), .v (.int .i64 y.dir.1), .v (.int .i64 y.dir.2), .v (.string y.name), .v (.int .i64 y.file.1), .v (.int .i64 y.file.2), .v (.int .i64 y.role), .v (.int .i64 y.kind), .v (.int .i64 y.mode), .v (.int .i64 y.uid), .v (.int .i64 y.gid), .v (.int .i64 y.perm)]
structure Cxs where
 os:List (List AV)
 ps:List (List AV)
 rs:List (List AV)
def D4(c:Ctx)(k:Cxs):List AV:=[.v (.int .i64 c.phase), .v (.int .i64 c.pid), .v (.int .i64 c.ppid), .v (.int .i64 c.uid), .v (.int .i64 c.euid), .v (.int .i64 c.gid), .v (.int .i64 c.egid), .v (.int .i64 c.auid), .v (.int .i64 c.ses), .v (.int .i64 c.cwd.1), .v (.int .i64 c.cwd.2), .v (.string c.comm), .v (.string c.exe), .sl 4 k.os none, .v (.bool c.audited),
 .v (.int .i64 c.number), .v (.int .i64 c.a0), .v (.int .i64 c.a1), .v (.int .i64 c.a2), .v (.int .i64 c.a3), .sl 1 k.ps none, .sl 1 k.rs none, .v (.int .i64 c.ext), .sl 13 (c.items.map Ga) none, .v (.int .i64 c.typ)]
section
theorem Fe(f:Int):AFn prog 221 [.v (.int .i64 f)] (fun r=>r= .v (.bool (DW f))):=by
 refine enter Tryz.func221 rfl rfl rfl rfl rfl 0 rfl ?_;refine w_ (a_ (h:=e_ (w_ (m_ (h:=AD (h:=m_ (h:=?_)))))));refine AW false rfl rfl (fun hb1=>?_) (fun hb1=>?_)
 ·have hc1:=bp hb1;refine A3 (h:=A3 (h:=AF (h:=a_ (h:=e_ (A4 (?_))))));refine A9 ?_;exact vb (by unfold DW;rw[Bool.eq_iff_iff];simp;try omega)
 have hc1:=bp hb1;refine m_ (h:=AD (h:=AM (h:=a_ (h:=e_ (A4 (?_))))));refine A9 ?_;exact vb (by unfold DW;rw[Bool.eq_iff_iff];simp;try omega)
theorem J7(f:Int):AFn prog 217 [.v (.int .i64 f)] (fun r=>r= .v (.bool (DW f))):=by
 refine enter Tryz.func217 rfl rfl rfl rfl rfl 0 rfl ?_;refine w_ (a_ (h:=e_ (w_ (m_ (h:=AD (h:=m_ (h:=?_)))))));refine AW false rfl rfl (fun hb1=>?_) (fun hb1=>?_)
 ·have hc1:=bp hb1;refine A3 (h:=A3 (h:=AF (h:=a_ (h:=e_ (A4 (?_))))));refine A9 ?_;exact vb (by unfold DW;rw[Bool.eq_iff_iff];simp;try omega)
 have hc1:=bp hb1;refine m_ (h:=AD (h:=AM (h:=a_ (h:=e_ (A4 (?_))))));refine A9 ?_;exact vb (by unfold DW;rw[Bool.eq_iff_iff];simp;try omega)
theorem SB(f:Int):AFn prog 160 [.v (.int .i64 f)] (fun r=>r= .v (.bool (EH f))):=by
 refine enter Tryz.func160 rfl rfl rfl rfl rfl 0 rfl ?_;refine w_ (a_ (h:=e_ (w_ (m_ (h:=Cw (h:=m_ (h:=?_)))))));refine AW true rfl rfl (fun hb1=>?_) (fun hb1=>?_)
 ·have hc1:=bp hb1;refine m_ (h:=E6 (h:=AF (h:=a_ (h:=e_ (A4 (?_))))));refine A9 ?_;exact vb (by unfold EH;rw[Bool.eq_iff_iff];simp;try omega)
 have hc1:=bp hb1;refine A3 (h:=A3 (h:=AM (h:=a_ (h:=e_ (A4 (?_))))));refine A9 ?_;exact vb (by unfold EH;rw[Bool.eq_iff_iff];simp;try omega)
theorem SC(f:Int):AFn prog 164 [.v (.int .i64 f)] (fun r=>r= .v (.bool (EH f))):=by
 refine enter Tryz.func164 rfl rfl rfl rfl rfl 0 rfl ?_;refine w_ (a_ (h:=e_ (w_ (m_ (h:=Cw (h:=m_ (h:=?_)))))));refine AW true rfl rfl (fun hb1=>?_) (fun hb1=>?_)
 ·have hc1:=bp hb1;refine m_ (h:=E6 (h:=AF (h:=a_ (h:=e_ (A4 (?_))))));refine A9 ?_;exact vb (by unfold EH;rw[Bool.eq_iff_iff];simp;try omega)
 have hc1:=bp hb1;refine A3 (h:=A3 (h:=AM (h:=a_ (h:=e_ (A4 (?_))))));refine A9 ?_;exact vb (by unfold EH;rw[Bool.eq_iff_iff];simp;try omega)
theorem SD(f:Int):AFn prog 220 [.v (.int .i64 f)] (fun r=>r= .v (.bool (Dd f))):=by
 refine enter Tryz.func220 rfl rfl rfl rfl rfl 0 rfl ?_;refine w_ (a_ (h:=e_ (q_ (w_ (m_ (h:=e_ (Ag (q_ (w_ (AD (h:=a_ (h:=e_ (?_)))))))))))));refine A8 rfl (fun hb1=>?_) (fun hb1=>?_)
 ·have hc1:=bp hb1;refine AB (B8 (h:=w_ (a_ (h:=e_ (A4 (AK (A6 (?_))))))));refine A9 ?_;exact vb (by unfold Dd;rw[Bool.eq_iff_iff];simp;try omega)
 have hc1:=bp hb1;refine w_ (AD (h:=a_ (h:=e_ (?_))));refine A8 rfl (fun hb2=>?_) (fun hb2=>?_)
 ·have hc2:=bp hb2;refine AB (B8 (h:=w_ (a_ (h:=e_ (A4 (AK (A6 (?_))))))));refine A9 ?_;exact vb (by unfold Dd;rw[Bool.eq_iff_iff];simp;try omega)
 have hc2:=bp hb2;refine w_ (AD (h:=a_ (h:=e_ (?_))));refine A8 rfl (fun hb3=>?_) (fun hb3=>?_)
 ·have hc3:=bp hb3;refine AB (B8 (h:=w_ (a_ (h:=e_ (A4 (AK (A6 (?_))))))));refine A9 ?_;exact vb (by unfold Dd;rw[Bool.eq_iff_iff];simp;try omega)
 have hc3:=bp hb3;refine w_ (AD (h:=a_ (h:=e_ (?_))));refine A8 rfl (fun hb4=>?_) (fun hb4=>?_)
 ·have hc4:=bp hb4;refine AB (B8 (h:=w_ (a_ (h:=e_ (A4 (AK (A6 (?_))))))));refine A9 ?_;exact vb (by unfold Dd;rw[Bool.eq_iff_iff];simp;try omega)
 have hc4:=bp hb4;refine w_ (AD (h:=a_ (h:=e_ (?_))));refine A8 rfl (fun hb5=>?_) (fun hb5=>?_)
 ·have hc5:=bp hb5;refine AB (B8 (h:=w_ (a_ (h:=e_ (A4 (AK (A6 (?_))))))));refine A9 ?_;exact vb (by unfold Dd;rw[Bool.eq_iff_iff];simp;try omega)
 have hc5:=bp hb5;refine w_ (AD (h:=a_ (h:=e_ (?_))));refine A8 rfl (fun hb6=>?_) (fun hb6=>?_)
 ·have hc6:=bp hb6;refine AB (B8 (h:=w_ (a_ (h:=e_ (A4 (AK (A6 (?_))))))));refine A9 ?_;exact vb (by unfold Dd;rw[Bool.eq_iff_iff];simp;try omega)
 have hc6:=bp hb6;refine AR (AD (h:=a_ (h:=e_ (?_))));refine A8 rfl (fun hb7=>?_) (fun hb7=>?_)
 ·have hc7:=bp hb7;refine w_ (a_ (h:=e_ (A4 (AK (A6 (?_))))));refine A9 ?_;exact vb (by unfold Dd;rw[Bool.eq_iff_iff];simp;try omega)
 have hc7:=bp hb7;refine Au (Ah (t_ (w_ (a_ (h:=e_ (A4 (?_)))))));refine A9 ?_;exact vb (by unfold Dd;rw[Bool.eq_iff_iff];simp;try omega)
theorem SE(f:Int):AFn prog 216 [.v (.int .i64 f)] (fun r=>r= .v (.bool (Dd f))):=by
 refine enter Tryz.func216 rfl rfl rfl rfl rfl 0 rfl ?_;refine w_ (a_ (h:=e_ (q_ (w_ (m_ (h:=e_ (Ag (q_ (w_ (AD (h:=a_ (h:=e_ (?_)))))))))))));refine A8 rfl (fun hb1=>?_) (fun hb1=>?_)
 ·have hc1:=bp hb1;refine AB (B8 (h:=w_ (a_ (h:=e_ (A4 (AK (A6 (?_))))))));refine A9 ?_;exact vb (by unfold Dd;rw[Bool.eq_iff_iff];simp;try omega)
 have hc1:=bp hb1;refine w_ (AD (h:=a_ (h:=e_ (?_))));refine A8 rfl (fun hb2=>?_) (fun hb2=>?_)
 ·have hc2:=bp hb2;refine AB (B8 (h:=w_ (a_ (h:=e_ (A4 (AK (A6 (?_))))))));refine A9 ?_;exact vb (by unfold Dd;rw[Bool.eq_iff_iff];simp;try omega)
 have hc2:=bp hb2;refine w_ (AD (h:=a_ (h:=e_ (?_))));refine A8 rfl (fun hb3=>?_) (fun hb3=>?_)
 ·have hc3:=bp hb3;refine AB (B8 (h:=w_ (a_ (h:=e_ (A4 (AK (A6 (?_))))))));refine A9 ?_;exact vb (by unfold Dd;rw[Bool.eq_iff_iff];simp;try omega)
 have hc3:=bp hb3;refine w_ (AD (h:=a_ (h:=e_ (?_))));refine A8 rfl (fun hb4=>?_) (fun hb4=>?_)
 ·have hc4:=bp hb4;refine AB (B8 (h:=w_ (a_ (h:=e_ (A4 (AK (A6 (?_))))))));refine A9 ?_;exact vb (by unfold Dd;rw[Bool.eq_iff_iff];simp;try omega)
 have hc4:=bp hb4;refine w_ (AD (h:=a_ (h:=e_ (?_))));refine A8 rfl (fun hb5=>?_) (fun hb5=>?_)
 ·have hc5:=bp hb5;refine AB (B8 (h:=w_ (a_ (h:=e_ (A4 (AK (A6 (?_))))))));refine A9 ?_;exact vb (by unfold Dd;rw[Bool.eq_iff_iff];simp;try omega)
 have hc5:=bp hb5;refine w_ (AD (h:=a_ (h:=e_ (?_))));refine A8 rfl (fun hb6=>?_) (fun hb6=>?_)
 ·have hc6:=bp hb6;refine AB (B8 (h:=w_ (a_ (h:=e_ (A4 (AK (A6 (?_))))))));refine A9 ?_;exact vb (by unfold Dd;rw[Bool.eq_iff_iff];simp;try omega)
 have hc6:=bp hb6;refine AR (AD (h:=a_ (h:=e_ (?_))));refine A8 rfl (fun hb7=>?_) (fun hb7=>?_)
 ·have hc7:=bp hb7;refine w_ (a_ (h:=e_ (A4 (AK (A6 (?_))))));refine A9 ?_;exact vb (by unfold Dd;rw[Bool.eq_iff_iff];simp;try omega)
 have hc7:=bp hb7;refine Au (Ah (t_ (w_ (a_ (h:=e_ (A4 (?_)))))));refine A9 ?_;exact vb (by unfold Dd;rw[Bool.eq_iff_iff];simp;try omega)
theorem SF(list f:Int):AFn prog 219 [.v (.int .i64 list), .v (.int .i64 f)] (fun r=>r= .v (.bool (Dc list f))):=by
 refine enter Tryz.func219 rfl rfl rfl rfl rfl 0 rfl ?_;refine w_ (a_ (h:=e_ (?_)));refine FZ (⟨look [(0, .v (.int .i64 list)),(1, .v (.int .i64 f)),(5, .v (.bool (CL f)))],⟨[],[]⟩⟩) ?_ ?_
 ·skip
  refine AR (m_ (h:=Cw (h:=m_ (h:=?_))));refine AW true rfl rfl (fun hb1=>?_) (fun hb1=>?_)
  ·have hc1:=bp hb1;refine m_ (h:=E6 (h:=AF (h:=m_ (h:=?_))));refine AW false rfl rfl (fun hb2=>?_) (fun hb2=>?_)
   ·have hc2:=bp hb2;refine A3 (h:=A3 (h:=AF (h:=m_ (h:=A3 (h:=A3 (h:=AF (h:=a_ (h:=AP (?_)))))))));refine AE ?_
    first|(exfalso;first|contradiction|omega)|exact Av 0 0 rfl rfl rfl rfl (by repeat (first|exact Sub.nil|refine Ax rfl rfl ?_|refine B1 ?_|refine B2 rfl ?_|refine B3 rfl ?_|(apply Sub.of;(focus exact rfl);(focus exact LeA.of_eq (vb (by unfold CL;rw[Bool.eq_iff_iff];simp;try omega)));(focus exact rfl))))
   have hc2:=bp hb2;refine m_ (h:=AD (h:=AM (h:=m_ (h:=?_))));refine AW false rfl rfl (fun hb3=>?_) (fun hb3=>?_)
   ·have hc3:=bp hb3;refine A3 (h:=A3 (h:=AF (h:=a_ (h:=AP (?_)))));refine AE ?_
    first|(exfalso;first|contradiction|omega)|exact Av 0 0 rfl rfl rfl rfl (by repeat (first|exact Sub.nil|refine Ax rfl rfl ?_|refine B1 ?_|refine B2 rfl ?_|refine B3 rfl ?_|(apply Sub.of;(focus exact rfl);(focus exact LeA.of_eq (vb (by unfold CL;rw[Bool.eq_iff_iff];simp;try omega)));(focus exact rfl))))
   have hc3:=bp hb3;refine m_ (h:=AD (h:=AM (h:=a_ (h:=AP (?_)))));refine AE ?_
   first|(exfalso;first|contradiction|omega)|exact Av 0 0 rfl rfl rfl rfl (by repeat (first|exact Sub.nil|refine Ax rfl rfl ?_|refine B1 ?_|refine B2 rfl ?_|refine B3 rfl ?_|(apply Sub.of;(focus exact rfl);(focus exact LeA.of_eq (vb (by unfold CL;rw[Bool.eq_iff_iff];simp;try omega)));(focus exact rfl))))
  have hc1:=bp hb1;refine A3 (h:=A3 (h:=AM (h:=m_ (h:=m_ (h:=AD (h:=AM (h:=m_ (h:=?_))))))));refine AW false rfl rfl (fun hb4=>?_) (fun hb4=>?_)
  ·have hc4:=bp hb4;refine A3 (h:=A3 (h:=AF (h:=a_ (h:=AP (?_)))));refine AE ?_
   first|(exfalso;first|contradiction|omega)|exact Av 0 0 rfl rfl rfl rfl (by repeat (first|exact Sub.nil|refine Ax rfl rfl ?_|refine B1 ?_|refine B2 rfl ?_|refine B3 rfl ?_|(apply Sub.of;(focus exact rfl);(focus exact LeA.of_eq (vb (by unfold CL;rw[Bool.eq_iff_iff];simp;try omega)));(focus exact rfl))))
  have hc4:=bp hb4;refine m_ (h:=AD (h:=AM (h:=a_ (h:=AP (?_)))));refine AE ?_
  first|(exfalso;first|contradiction|omega)|exact Av 0 0 rfl rfl rfl rfl (by repeat (first|exact Sub.nil|refine Ax rfl rfl ?_|refine B1 ?_|refine B2 rfl ?_|refine B3 rfl ?_|(apply Sub.of;(focus exact rfl);(focus exact LeA.of_eq (vb (by unfold CL;rw[Bool.eq_iff_iff];simp;try omega)));(focus exact rfl))))
 skip
 refine q_ (w_ (m_ (h:=e_ (Ag (q_ (w_ (AD (h:=a_ (h:=e_ (?_))))))))));refine A8 rfl (fun hb5=>?_) (fun hb5=>?_)
 ·have hc5:=bp hb5;refine AB (B8 (h:=w_ (m_ (h:=a_ (h:=e_ (A4 (AK (A6 (?_)))))))));refine A9 ?_
  first|(exfalso;first|contradiction|omega)|(exact vb (by unfold Dc;unfold CL at *;simp only[*];(try rw[Bool.eq_iff_iff]);simp at *;try omega))
 have hc5:=bp hb5;refine AR (AD (h:=a_ (h:=e_ (?_))));refine A8 rfl (fun hb6=>?_) (fun hb6=>?_)
 ·have hc6:=bp hb6;refine w_ (m_ (h:=a_ (h:=e_ (A4 (AK (A6 (?_)))))));refine A9 ?_
  first|(exfalso;first|contradiction|omega)|(exact vb (by unfold Dc;unfold CL at *;simp only[*];(try rw[Bool.eq_iff_iff]);simp at *;try omega))
 have hc6:=bp hb6;refine w_ (AD (h:=a_ (h:=e_ (?_))));refine A8 rfl (fun hb7=>?_) (fun hb7=>?_)
 ·have hc7:=bp hb7;refine w_ (m_ (h:=Cw (h:=m_ (h:=?_))));refine AW true rfl rfl (fun hb8=>?_) (fun hb8=>?_)
  ·have hc8:=bp hb8;refine m_ (h:=E6 (h:=AF (h:=a_ (h:=e_ (A4 (AK (A6 (?_))))))));refine A9 ?_
   first|(exfalso;first|contradiction|omega)|(exact vb (by unfold Dc;unfold CL at *;simp only[*];(try rw[Bool.eq_iff_iff]);simp at *;try omega))
  have hc8:=bp hb8;refine A3 (h:=A3 (h:=AM (h:=a_ (h:=e_ (A4 (AK (A6 (?_))))))));refine A9 ?_
  first|(exfalso;first|contradiction|omega)|(exact vb (by unfold Dc;unfold CL at *;simp only[*];(try rw[Bool.eq_iff_iff]);simp at *;try omega))
 have hc7:=bp hb7;refine w_ (AD (h:=a_ (h:=e_ (?_))));refine A8 rfl (fun hb9=>?_) (fun hb9=>?_)
 ·have hc9:=bp hb9;refine w_ (m_ (h:=Cw (h:=m_ (h:=?_))));refine AW true rfl rfl (fun hb10=>?_) (fun hb10=>?_)
  ·have hc10:=bp hb10;refine m_ (h:=E6 (h:=AF (h:=a_ (h:=e_ (A4 (AK (A6 (?_))))))));refine A9 ?_
   first|(exfalso;first|contradiction|omega)|(exact vb (by unfold Dc;unfold CL at *;simp only[*];(try rw[Bool.eq_iff_iff]);simp at *;try omega))
  have hc10:=bp hb10;refine A3 (h:=A3 (h:=AM (h:=a_ (h:=e_ (A4 (AK (A6 (?_))))))));refine A9 ?_
  first|(exfalso;first|contradiction|omega)|(exact vb (by unfold Dc;unfold CL at *;simp only[*];(try rw[Bool.eq_iff_iff]);simp at *;try omega))
 have hc9:=bp hb9;refine w_ (AD (h:=a_ (h:=e_ (?_))));refine A8 rfl (fun hb11=>?_) (fun hb11=>?_)
 ·have hc11:=bp hb11;refine w_ (m_ (h:=m_ (h:=?_)));refine AW false rfl rfl (fun hb12=>?_) (fun hb12=>?_)
  ·have hc12:=bp hb12;refine A3 (h:=A3 (h:=AF (h:=a_ (h:=e_ (A4 (AK (A6 (?_))))))));refine A9 ?_
   first|(exfalso;first|contradiction|omega)|(exact vb (by unfold Dc;unfold CL at *;simp only[*];(try rw[Bool.eq_iff_iff]);simp at *;try omega))
  have hc12:=bp hb12;refine m_ (h:=AD (h:=AM (h:=a_ (h:=e_ (A4 (AK (A6 (?_))))))));refine A9 ?_
  first|(exfalso;first|contradiction|omega)|(exact vb (by unfold Dc;unfold CL at *;simp only[*];(try rw[Bool.eq_iff_iff]);simp at *;try omega))
 have hc11:=bp hb11;refine Au (Ah (t_ (w_ (a_ (h:=e_ (A4 (?_)))))));refine A9 ?_
 first|(exfalso;first|contradiction|omega)|(exact vb (by unfold Dc;unfold CL at *;simp only[*];(try rw[Bool.eq_iff_iff]);simp at *;try omega))
theorem SG(list f:Int):AFn prog 215 [.v (.int .i64 list), .v (.int .i64 f)] (fun r=>r= .v (.bool (Dc list f))):=by
 refine enter Tryz.func215 rfl rfl rfl rfl rfl 0 rfl ?_;refine w_ (a_ (h:=e_ (q_ (w_ (m_ (h:=BB (h:=m_ (h:=?_))))))));refine AW false rfl rfl (fun hb1=>?_) (fun hb1=>?_)
 ·have hc1:=bp hb1;refine A3 (h:=A3 (h:=AF (h:=e_ (B8 (h:=w_ (a_ (h:=e_ (A4 (A6 (?_))))))))));refine A9 ?_
  first|(exfalso;first|contradiction|omega)|(exact vb (by unfold Dc CL;(repeat' split)<;>(try rw[Bool.eq_iff_iff])<;>(try simp)<;>(first|omega|(unfold CL at *;simp only[decide_eq_true_eq,decide_eq_false_iff_not]at *;omega)|skip)))
 have hc1:=bp hb1;refine m_ (h:=Bl (h:=AM (h:=e_ (?_))));refine A8 rfl (fun hb2=>?_) (fun hb2=>?_)
 ·have hc2:=bp hb2;refine w_ (a_ (h:=e_ (A4 (A6 (?_)))));refine A9 ?_
  first|(exfalso;first|contradiction|omega)|(exact vb (by unfold Dc CL;(repeat' split)<;>(try rw[Bool.eq_iff_iff])<;>(try simp)<;>(first|omega|(unfold CL at *;simp only[decide_eq_true_eq,decide_eq_false_iff_not]at *;omega)|skip)))
 have hc2:=bp hb2;refine AB (?_);refine FZ (⟨look [(0, .v (.int .i64 list)),(1, .v (.int .i64 f)),(5, .v (.bool (CL f)))],⟨[],[]⟩⟩) ?_ ?_
 ·skip
  refine AR (m_ (h:=E6 (h:=m_ (h:=?_))));refine AW false rfl rfl (fun hb3=>?_) (fun hb3=>?_)
  ·have hc3:=bp hb3;refine A3 (h:=A3 (h:=AF (h:=m_ (h:=A3 (h:=A3 (h:=AF (h:=a_ (h:=AP (?_)))))))));refine AE ?_
   first|(exfalso;first|contradiction|omega)|exact Av 0 0 rfl rfl rfl rfl (by repeat (first|exact Sub.nil|refine Ax rfl rfl ?_|refine B1 ?_|refine B2 rfl ?_|refine B3 rfl ?_|(apply Sub.of;(focus exact rfl);(focus exact LeA.of_eq (vb (by unfold CL;rw[Bool.eq_iff_iff];simp;try omega)));(focus exact rfl))))
  have hc3:=bp hb3;refine m_ (h:=AD (h:=AM (h:=m_ (h:=?_))));refine AW false rfl rfl (fun hb4=>?_) (fun hb4=>?_)
  ·have hc4:=bp hb4;refine A3 (h:=A3 (h:=AF (h:=a_ (h:=AP (?_)))));refine AE ?_
   first|(exfalso;first|contradiction|omega)|exact Av 0 0 rfl rfl rfl rfl (by repeat (first|exact Sub.nil|refine Ax rfl rfl ?_|refine B1 ?_|refine B2 rfl ?_|refine B3 rfl ?_|(apply Sub.of;(focus exact rfl);(focus exact LeA.of_eq (vb (by unfold CL;rw[Bool.eq_iff_iff];simp;try omega)));(focus exact rfl))))
  have hc4:=bp hb4;refine m_ (h:=AD (h:=AM (h:=a_ (h:=AP (?_)))));refine AE ?_
  first|(exfalso;first|contradiction|omega)|exact Av 0 0 rfl rfl rfl rfl (by repeat (first|exact Sub.nil|refine Ax rfl rfl ?_|refine B1 ?_|refine B2 rfl ?_|refine B3 rfl ?_|(apply Sub.of;(focus exact rfl);(focus exact LeA.of_eq (vb (by unfold CL;rw[Bool.eq_iff_iff];simp;try omega)));(focus exact rfl))))
 skip
 refine q_ (w_ (m_ (h:=e_ (Ag (q_ (w_ (AD (h:=a_ (h:=e_ (?_))))))))));refine A8 rfl (fun hb5=>?_) (fun hb5=>?_)
 ·have hc5:=bp hb5;refine AB (B8 (h:=w_ (m_ (h:=a_ (h:=e_ (A4 (AK (A6 (?_)))))))));refine A9 ?_
  first|(exfalso;first|contradiction|omega)|(exact vb (by unfold Dc CL;(repeat' split)<;>(try rw[Bool.eq_iff_iff])<;>(try simp)<;>(first|omega|(unfold CL at *;simp only[decide_eq_true_eq,decide_eq_false_iff_not]at *;omega)|skip)))
 have hc5:=bp hb5;refine AR (AD (h:=a_ (h:=e_ (?_))));refine A8 rfl (fun hb6=>?_) (fun hb6=>?_)
 ·have hc6:=bp hb6;refine w_ (m_ (h:=a_ (h:=e_ (A4 (AK (A6 (?_)))))));refine A9 ?_
  first|(exfalso;first|contradiction|omega)|(exact vb (by unfold Dc CL;(repeat' split)<;>(try rw[Bool.eq_iff_iff])<;>(try simp)<;>(first|omega|(unfold CL at *;simp only[decide_eq_true_eq,decide_eq_false_iff_not]at *;omega)|skip)))
 have hc6:=bp hb6;refine w_ (AD (h:=a_ (h:=e_ (?_))));refine A8 rfl (fun hb7=>?_) (fun hb7=>?_)
 ·have hc7:=bp hb7;refine w_ (m_ (h:=E6 (h:=a_ (h:=e_ (A4 (AK (A6 (?_))))))));refine A9 ?_
  first|(exfalso;first|contradiction|omega)|(exact vb (by unfold Dc CL;(repeat' split)<;>(try rw[Bool.eq_iff_iff])<;>(try simp)<;>(first|omega|(unfold CL at *;simp only[decide_eq_true_eq,decide_eq_false_iff_not]at *;omega)|skip)))
 have hc7:=bp hb7;refine w_ (AD (h:=a_ (h:=e_ (?_))));refine A8 rfl (fun hb8=>?_) (fun hb8=>?_)
 ·have hc8:=bp hb8;refine w_ (m_ (h:=BB (h:=a_ (h:=e_ (A4 (AK (A6 (?_))))))));refine A9 ?_
  first|(exfalso;first|contradiction|omega)|(exact vb (by unfold Dc CL;(repeat' split)<;>(try rw[Bool.eq_iff_iff])<;>(try simp)<;>(first|omega|(unfold CL at *;simp only[decide_eq_true_eq,decide_eq_false_iff_not]at *;omega)|skip)))
 have hc8:=bp hb8;refine w_ (AD (h:=a_ (h:=e_ (?_))));refine A8 rfl (fun hb9=>?_) (fun hb9=>?_)
 ·have hc9:=bp hb9;refine w_ (m_ (h:=m_ (h:=?_)));refine AW false rfl rfl (fun hb10=>?_) (fun hb10=>?_)
  ·have hc10:=bp hb10;refine A3 (h:=A3 (h:=AF (h:=a_ (h:=e_ (A4 (AK (A6 (?_))))))));refine A9 ?_
   first|(exfalso;first|contradiction|omega)|(exact vb (by unfold Dc CL;(repeat' split)<;>(try rw[Bool.eq_iff_iff])<;>(try simp)<;>(first|omega|(unfold CL at *;simp only[decide_eq_true_eq,decide_eq_false_iff_not]at *;omega)|skip)))
  have hc10:=bp hb10;refine m_ (h:=AD (h:=AM (h:=a_ (h:=e_ (A4 (AK (A6 (?_))))))));refine A9 ?_
  first|(exfalso;first|contradiction|omega)|(exact vb (by unfold Dc CL;(repeat' split)<;>(try rw[Bool.eq_iff_iff])<;>(try simp)<;>(first|omega|(unfold CL at *;simp only[decide_eq_true_eq,decide_eq_false_iff_not]at *;omega)|skip)))
 have hc9:=bp hb9;refine Au (Ah (t_ (w_ (a_ (h:=e_ (A4 (?_)))))));refine A9 ?_
 first|(exfalso;first|contradiction|omega)|(exact vb (by unfold Dc CL;(repeat' split)<;>(try rw[Bool.eq_iff_iff])<;>(try simp)<;>(first|omega|(unfold CL at *;simp only[decide_eq_true_eq,decide_eq_false_iff_not]at *;omega)|skip)))
end
end Go.Proofs.YtbgnigjfkbmceaaGreatDoor
