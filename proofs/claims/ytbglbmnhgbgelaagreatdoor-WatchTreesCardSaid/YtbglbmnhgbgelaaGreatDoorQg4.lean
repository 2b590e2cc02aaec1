/-
  Part 4 of the proof of WatchTreesP: what the statement's proof uses of the texts in wip/tpl.
-/
import Derived.WalkKit
import Derived.Test.YtbglbmnhgbgelaaGreatDoorQg3
set_option maxRecDepth 10000
set_option maxHeartbeats 4000000
set_option linter.unusedVariables false
set_option linter.unusedSimpArgs false
namespace Go.Proofs.YtbglbmnhgbgelaaGreatDoor
open Go.RowKit
section
variable {P:Program}{N:Dim}{Q:Exit→AS→Prop}{s:AS}
def AC(P:Program)(N:Dim)(y:Code)(Q:Exit→AS→Prop)(s:AS):Prop:=Bu P N y Q s
theorem q_{x y:Code}(h:Bu P N x (GJ (AC P N y Q) Q) s):Bu P N (.seq x y) Q s:=by
 intro E a w hr
 refine wp_seq (wp_mono (h E a w hr) ?_)
 rintro e a' w' ⟨s',hq,hr'⟩
 cases e with
 |normal=>exact hq E a' w' hr'
 |exit id=>exact⟨s',hq,hr'⟩
 |goto l=>exact⟨s',hq,hr'⟩
 |ret=>exact⟨s',hq,hr'⟩
 |panic c=>exact⟨s',hq,hr'⟩
 |outgrown=>exact⟨s',hq,hr'⟩
theorem w_{id:Nat}{l:List Oper}{y:Code}(h:AL P N l.toArray (GJ (AC P N y Q) Q) l s):Bu P N (.seq (.region id l.toArray false) y) Q s:=q_ (AP h)
theorem t_{y:Code}(h:Bu P N y Q s):GJ (AC P N y Q) Q .normal s:=h
theorem e_{ops:Array Oper}{y:Code}(h:Bu P N y Q s):AL P N ops (GJ (AC P N y Q) Q) [] s:=AO h
theorem AG{y:Code}(h:Bu P N y Q s):Bu P N .skip (GJ (AC P N y Q) Q) s:=BB h
theorem Bf{c:Operand}{x y:Code}{t:Bool}(hc:C9 s.sl c=some (.v (.bool t)):=by rfl)(ht:t=true:=by first|rfl|assumption|simp[*])(h:Bu P N x Q s):Bu P N (.cond c x y) Q s:=XK hc ht h
theorem F6{c:Operand}{x y:Code}{t:Bool}(hc:C9 s.sl c=some (.v (.bool t)):=by rfl)(ht:t=false:=by first|rfl|assumption|simp[*])(h:Bu P N y Q s):Bu P N (.cond c x y) Q s:=XL hc ht h
end
section
variable {P:Program}{N:Dim}{Q:Exit→AS→Prop}{ops:Array Oper}{rest:List Oper}{l:List (Nat×AV)}{hh:AH}{op:Op}{ty:TypeId}{pos:String}{af:Array Edge}
theorem A3{d j:Nat}{want t:Bool}(hd:Nat.blt d N.n=true:=by rfl)(hy:yv ops (look l) j=some (some t):=by rfl)(ht:(t==want)=false:=by first|rfl|exact SN ‹_›|exact SO ‹_›|simp[*])(h:AL P N ops Q rest ⟨look ((d, .v undef)::l),hh⟩):AL P N ops Q (⟨some d,op,ty,pos,af,some (j,want)⟩::rest) ⟨look l,hh⟩:=XM hd hy ht h
theorem ED{d j:Nat}{want:Bool}(hd:Nat.blt d N.n=true:=by rfl)(hy:yv ops (look l) j=some none:=by rfl)(h:AL P N ops Q rest ⟨look ((d, .v undef)::l),hh⟩):AL P N ops Q (⟨some d,op,ty,pos,af,some (j,want)⟩::rest) ⟨look l,hh⟩:=XN hd hy h
end
def KB:List (Nat×List AV)→AH→Prop
 |[],_=>True
 |(i,r)::l,h=>h.bx[i]?=some r∧KB l h
def PX:List (Nat×List AV)→Nat→Option (List AV)
 |[],_=>none
 |(i,r)::l,j=>match Nat.beq i j with
   |true=>some r
   |false=>PX l j
theorem kb:∀{l:List (Nat×List AV)} {h:AH} {i:Nat} {row:List AV},KB l h→PX l i=some row→h.bx[i]?=some row
 |[],_,_,_,_,e=>by cases e
 |(j,r)::l,h,i,row,k,e=>by
   unfold PX at e
   split at e
   ·rename_i hb
    have:=Nat.eq_of_beq_eq_true hb
    subst this
    injection e with e
    subst e
    exact k.1
   exact kb k.2 e
theorem M5(h:AH):KB [] h:=trivial
theorem M6{l:List (Nat×List AV)}{h:AH}{i:Nat}{r:List AV}(h1:h.bx[i]?=some r)(h2:KB l h):KB ((i,r)::l) h:=⟨h1,h2⟩
def Do(_i:Nat)(B A:Prop):Prop:=B→A
section
variable {P:Program}{N:Dim}{l:List Oper}{Q:Exit→AS→Prop}{S:AH→Prop}{tl fuel:Nat}{listed:Array Bool}{m:List (Nat×AV)}{hh:AH}{op:Op}{ty:TypeId}{pos:String}{af:Array Edge}{gd:Option (Nat×Bool)}
theorem Cw{i d:Nat}{x:AV}(hi:l[i]?=some ⟨some d,op,ty,pos,af,gd⟩)(hst:AStep P ⟨some d,op,ty,pos,af,gd⟩ (C9 (look m)) hh (fun x' h'=>x'=x∧h'=hh))(hd:Nat.blt d N.n=true:=by rfl)(htl:(H8 l.toArray tl listed&& !Nat.ble tl i&&Region.free .any l.toArray listed i&&(Region.ready .any l.toArray listed).contains i)=true:=by kernel_rfl)
    (hw:CR l.toArray (look m) ⟨some d,op,ty,pos,af,gd⟩=some true:=by first|rfl|exact Al rfl rfl (Bv ‹_›)|exact Al rfl rfl (Bw ‹_›)|exact Al rfl rfl (by simp[*])):
    Do i (AAny P N l.toArray Q (fun h'=>h'=hh) tl fuel (listed.setIfInBounds i true) ⟨look ((d,x)::m),hh⟩) (AAny P N l.toArray Q (fun h'=>h'=hh) tl (fuel+1) listed ⟨look m,hh⟩):=fun H=>Ru hi hd htl hw hst H
theorem Cx{K:List (Nat×List AV)}{i d:Nat}{x:AV}(hi:l[i]?=some ⟨some d,op,ty,pos,af,gd⟩)(hst:∀h,KB K h→AStep P ⟨some d,op,ty,pos,af,gd⟩ (C9 (look m)) h (fun x' h'=>x'=x∧h'=h))(hd:Nat.blt d N.n=true:=by rfl)(htl:(H8 l.toArray tl listed&& !Nat.ble tl i&&Region.free .any l.toArray listed i&&(Region.ready .any l.toArray listed).contains i)=true:=by kernel_rfl)
    (hw:CR l.toArray (look m) ⟨some d,op,ty,pos,af,gd⟩=some true:=by first|rfl|exact Al rfl rfl (Bv ‹_›)|exact Al rfl rfl (Bw ‹_›)|exact Al rfl rfl (by simp[*])) (hS:KB K hh:=by repeat (first|exact M5 _|refine M6 rfl ?_)):
    Do i (AAny P N l.toArray Q (KB K) tl fuel (listed.setIfInBounds i true) ⟨look ((d,x)::m),hh⟩) (AAny P N l.toArray Q (KB K) tl (fuel+1) listed ⟨look m,hh⟩):=fun H=>CD hi hd htl hw hst hS H
theorem Bj{K:List (Nat×List AV)}(i:Nat){d:Nat}{x:AV}(hi:l[i]?=some ⟨some d,op,ty,pos,af,gd⟩)(hst:∀h,KB K h→AStep P ⟨some d,op,ty,pos,af,gd⟩ (C9 (look m)) h (fun x' h'=>x'=x∧h'=h))(H:AAny P N l.toArray Q (KB K) tl fuel (listed.setIfInBounds i true) ⟨look ((d,x)::m),hh⟩)(hd:Nat.blt d N.n=true:=by rfl)(htl:(H8 l.toArray tl listed&& !Nat.ble tl i&&Region.free .any l.toArray listed i&&(Region.ready .any l.toArray listed).contains i)=true:=by kernel_rfl)
    (hw:CR l.toArray (look m) ⟨some d,op,ty,pos,af,gd⟩=some true:=by first|rfl|exact Al rfl rfl (Bv ‹_›)|exact Al rfl rfl (Bw ‹_›)|exact Al rfl rfl (by simp[*])) (hS:KB K hh:=by repeat (first|exact M5 _|refine M6 rfl ?_)):AAny P N l.toArray Q (KB K) tl (fuel+1) listed ⟨look m,hh⟩:=CD hi hd htl hw hst hS H
theorem BX(i:Nat){d:Nat}(hi:l[i]?=some ⟨some d,op,ty,pos,af,gd⟩:=by rfl)(hd:Nat.blt d N.n=true:=by rfl)(htl:(H8 l.toArray tl listed&& !Nat.ble tl i&&Region.free .any l.toArray listed i&&(Region.ready .any l.toArray listed).contains i)=true:=by kernel_rfl)
    (hw:CR l.toArray (look m) ⟨some d,op,ty,pos,af,gd⟩=some false:=by first|rfl|exact Oz rfl rfl (SN ‹_›)|exact Oz rfl rfl (SO ‹_›)|exact Wv rfl rfl|exact Oz rfl rfl (by simp[*]))
    (hS:S hh:=by first|rfl|(repeat (first|exact M5 _|refine M6 rfl ?_))) (h:AAny P N l.toArray Q S tl fuel (listed.setIfInBounds i true) ⟨look ((d, .v undef)::m),hh⟩):AAny P N l.toArray Q S tl (fuel+1) listed ⟨look m,hh⟩:=Wq hi hd htl hw hS h
theorem c_(i:Nat){d:Nat}(hi:l[i]?=some ⟨some d,op,ty,pos,af,gd⟩)(H:AStep P ⟨some d,op,ty,pos,af,gd⟩ (C9 (look m)) hh (fun x h'=>(Nat.ble tl i=true∨S h')∧AAny P N l.toArray Q S tl fuel (listed.setIfInBounds i true) ⟨look ((d,x)::m),h'⟩))(hd:Nat.blt d N.n=true:=by rfl)(hr:Region.ready .any l.toArray listed=[i]:=by kernel_rfl)
    (hw:CR l.toArray (look m) ⟨some d,op,ty,pos,af,gd⟩=some true:=by first|rfl|exact Al rfl rfl (Bv ‹_›)|exact Al rfl rfl (Bw ‹_›)|exact Al rfl rfl (by simp[*])):AAny P N l.toArray Q S tl (fuel+1) listed ⟨look m,hh⟩:=Wr hi hd hr hw H
theorem B0(i:Nat)(hi:l[i]?=some ⟨none,op,ty,pos,af,gd⟩)(H:AStep P ⟨none,op,ty,pos,af,gd⟩ (C9 (look m)) hh (fun _ h'=>(Nat.ble tl i=true∨S h')∧AAny P N l.toArray Q S tl fuel (listed.setIfInBounds i true) ⟨look m,h'⟩))(hr:Region.ready .any l.toArray listed=[i]:=by kernel_rfl)
    (hw:CR l.toArray (look m) ⟨none,op,ty,pos,af,gd⟩=some true:=by first|rfl|exact Al rfl rfl (Bv ‹_›)|exact Al rfl rfl (Bw ‹_›)|exact Al rfl rfl (by simp[*])):AAny P N l.toArray Q S tl (fuel+1) listed ⟨look m,hh⟩:=Ws hi hr hw H
theorem Da(i j:Nat){di dj:Nat}{op':Op}{ty':TypeId}{pos':String}{af':Array Edge}{gd':Option (Nat×Bool)}(hi:l[i]?=some ⟨some di,op,ty,pos,af,gd⟩)(hj:l[j]?=some ⟨some dj,op',ty',pos',af',gd'⟩)
    (H1:AStep P ⟨some di,op,ty,pos,af,gd⟩ (C9 (look m)) hh (fun x h'=>(Nat.ble tl i=true∨S h')∧AAny P N l.toArray Q S tl fuel (listed.setIfInBounds i true) ⟨look ((di,x)::m),h'⟩))
    (H2:AStep P ⟨some dj,op',ty',pos',af',gd'⟩ (C9 (look m)) hh (fun x h'=>(Nat.ble tl j=true∨S h')∧AAny P N l.toArray Q S tl fuel (listed.setIfInBounds j true) ⟨look ((dj,x)::m),h'⟩))
    (hdi:Nat.blt di N.n=true:=by rfl) (hdj:Nat.blt dj N.n=true:=by rfl) (hr:Region.ready .any l.toArray listed=[i,j]:=by kernel_rfl)
    (hwi:CR l.toArray (look m) ⟨some di,op,ty,pos,af,gd⟩=some true:=by first|rfl|exact Al rfl rfl (Bv ‹_›)|exact Al rfl rfl (Bw ‹_›)|exact Al rfl rfl (by simp[*]))
    (hwj:CR l.toArray (look m) ⟨some dj,op',ty',pos',af',gd'⟩=some true:=by first|rfl|exact Al rfl rfl (Bv ‹_›)|exact Al rfl rfl (Bw ‹_›)|exact Al rfl rfl (by simp[*])):AAny P N l.toArray Q S tl (fuel+1) listed ⟨look m,hh⟩:=Xb hr hi hdi hwi hj hdj hwj H1 H2
theorem o_{i:Nat}{A:Prop}{h':AH}(hS:Nat.ble tl i=true∨S h':=by first|exact .inl rfl|exact .inr rfl|exact .inr (by repeat (first|exact M5 _|refine M6 rfl ?_)))(h:A):(Nat.ble tl i=true∨S h')∧A:=⟨hS,h⟩
theorem z_(hr:Region.ready .any l.toArray listed=[]:=by kernel_rfl)(h:Q .normal ⟨look m,hh⟩):AAny P N l.toArray Q S tl fuel listed ⟨look m,hh⟩:=Wu hr h fuel
theorem DT(tl:Nat){id:Nat}(hm:P.follows .mixedOrders=true:=by kernel_rfl)(h:AAny P N l.toArray Q (fun h'=>h'=hh) tl l.length (Array.replicate l.length false) ⟨look m,hh⟩):Bu P N (.region id l.toArray true) Q ⟨look m,hh⟩:=Wt tl hm h
theorem BH(K:List (Nat×List AV))(tl:Nat){id:Nat}(hm:P.follows .mixedOrders=true:=by kernel_rfl)(h:AAny P N l.toArray Q (KB K) tl l.length (Array.replicate l.length false) ⟨look m,hh⟩):Bu P N (.region id l.toArray true) Q ⟨look m,hh⟩:=Kh _ tl hm h
end
section
variable {P:Program}{rs:List ResultVar}{n:Nat}{R:AV→List (List AV)→List CY→Prop}{s:AS}{xs:List AV}{r:AV}
theorem Aj(g:Option Nat){tk':List CY}(h1:ResA P s rs xs:=by repeat (first|exact ResA.nil|(apply ResA.tmp;(focus exact rfl))|(apply ResA.cellN;(focus exact inferInstance);(focus exact rfl);(focus exact rfl);(focus exact rfl))|(apply ResA.cell1;(focus exact inferInstance);(focus exact rfl);(focus exact rfl);(focus exact rfl))))(h2:JY s.h.tk g=some tk':=by rfl)(h3:Ac n 1 (DJ g (EO xs))=true:=by rfl)(h4:Ag n 0 (s.h.bx.take n)=true:=by rfl)(h5:LeA (DJ g (EO xs)) r)(h6:R r (s.h.bx.take n) tk'):JZ P rs n R .ret s:=PK g h1 h2 h3 h4 h5 h6
theorem Nr(g:Option Nat){tk':List CY}(h1:ResA P s rs xs:=by repeat (first|exact ResA.nil|(apply ResA.tmp;(focus exact rfl))|(apply ResA.cellN;(focus exact inferInstance);(focus exact rfl);(focus exact rfl);(focus exact rfl))|(apply ResA.cell1;(focus exact inferInstance);(focus exact rfl);(focus exact rfl);(focus exact rfl))))(h2:JY s.h.tk g=some tk':=by rfl)(h3:Ac n 1 (DJ g (EO xs))=true:=by rfl)(h4:Ag n 0 (s.h.bx.take n)=true:=by rfl)(h5:LeA (DJ g (EO xs)) r)(h6:R r (s.h.bx.take n) tk'):JZ P rs n R .normal s:=XC g h1 h2 h3 h4 h5 h6
end
theorem m_{A B:Prop}(k:B→A:=by intro b;first|exact A4 rfl (Ex rfl b)|exact B6 (Ex rfl b))(h:B):A:=k h
theorem AN(i:Nat){A B:Prop}(k:Do i B A:=by first|exact Cw rfl (Ex rfl ⟨rfl,rfl⟩)|exact Cx rfl (fun _ _=>Ex rfl ⟨rfl,rfl⟩))(h:B):A:=k h
theorem a_{A B:Prop}(k:B→A:=by intro b;first|exact A4 rfl (FJ rfl b)|exact B6 (FJ rfl b))(h:B):A:=k h
theorem BC(i:Nat){A B:Prop}(k:Do i B A:=by first|exact Cw rfl (FJ rfl ⟨rfl,rfl⟩)|exact Cx rfl (fun _ _=>FJ rfl ⟨rfl,rfl⟩))(h:B):A:=k h
theorem f_{A B:Prop}(k:B→A:=by intro b;first|exact A4 rfl (Ei rfl b)|exact A4 rfl (NG rfl b)|exact B6 (Ei rfl b)|exact B6 (NG rfl b))(h:B):A:=k h
theorem AF(i:Nat){A B:Prop}(k:Do i B A:=by first|exact Cw rfl (Ei rfl ⟨rfl,rfl⟩)|exact Cw rfl (NG rfl ⟨rfl,rfl⟩)|exact Cx rfl (fun _ _=>Ei rfl ⟨rfl,rfl⟩)|exact Cx rfl (fun _ _=>NG rfl ⟨rfl,rfl⟩))(h:B):A:=k h
theorem l_{A B:Prop}(k:B→A:=by intro b;first|exact A4 rfl (D4 rfl rfl rfl b)|exact A4 rfl (Ez rfl rfl rfl b)|exact A4 rfl (Jt rfl rfl b)|exact A4 rfl (Lm rfl rfl b)|exact A4 rfl (FR rfl rfl rfl b)|exact A4 rfl (Ll rfl rfl b)|exact B6 (D4 rfl rfl rfl b)|exact B6 (Ez rfl rfl rfl b)|exact B6 (Jt rfl rfl b)|exact B6 (Lm rfl rfl b)|exact B6 (FR rfl rfl rfl b)|exact B6 (Ll rfl rfl b))(h:B):A:=k h
theorem AJ(i:Nat){A B:Prop}(k:Do i B A:=by first|exact Cw rfl (D4 rfl rfl rfl ⟨rfl,rfl⟩)|exact Cw rfl (Ez rfl rfl rfl ⟨rfl,rfl⟩)|exact Cw rfl (Jt rfl rfl ⟨rfl,rfl⟩)|exact Cw rfl (Lm rfl rfl ⟨rfl,rfl⟩)|exact Cw rfl (FR rfl rfl rfl ⟨rfl,rfl⟩)|exact Cw rfl (Ll rfl rfl ⟨rfl,rfl⟩)|exact Cx rfl (fun _ hS=>D4 rfl (kb hS rfl) rfl ⟨rfl,rfl⟩)|exact Cx rfl (fun _ hS=>Ez rfl (kb hS rfl) rfl ⟨rfl,rfl⟩)|exact Cx rfl (fun _ _=>Jt rfl rfl ⟨rfl,rfl⟩)|exact Cx rfl (fun _ _=>Lm rfl rfl ⟨rfl,rfl⟩)|exact Cx rfl (fun _ hS=>FR rfl (kb hS rfl) rfl ⟨rfl,rfl⟩)|exact Cx rfl (fun _ _=>Ll rfl rfl ⟨rfl,rfl⟩))(h:B):A:=k h
theorem s_{A B:Prop}(k:B→A:=by intro b;exact K0 (Aw rfl rfl rfl rfl rfl rfl (by repeat constructor) (by repeat constructor) b))(h:B):A:=k h
theorem b_{A B:Prop}(k:B→A:=by intro b;first|exact A4 rfl (Lw rfl rfl (by repeat constructor) b)|exact A4 rfl (SP rfl rfl (by repeat constructor) b)|exact B6 (Lw rfl rfl (by repeat constructor) b)|exact B6 (SP rfl rfl (by repeat constructor) b))(h:B):A:=k h
theorem AW{A B:Prop}(k:B→A:=by intro b;first|exact A4 rfl (Bx (by repeat constructor) b)|exact B6 (Bx (by repeat constructor) b))(h:B):A:=k h
theorem n_{A B:Prop}(k:B→A:=by intro b;first|exact A4 rfl (NV rfl b)|exact A4 rfl (NU (by kernel_rfl) rfl b)|exact A4 rfl (NW rfl b)|exact B6 (NV rfl b)|exact B6 (NU (by kernel_rfl) rfl b)|exact B6 (NW rfl b))(h:B):A:=k h
theorem K7(i:Nat){A B:Prop}(k:Do i B A:=by first|exact Cw rfl (NV rfl ⟨rfl,rfl⟩)|exact Cw rfl (NU (by kernel_rfl) rfl ⟨rfl,rfl⟩)|exact Cw rfl (NW rfl ⟨rfl,rfl⟩)|exact Cx rfl (fun _ _=>NV rfl ⟨rfl,rfl⟩)|exact Cx rfl (fun _ _=>NU (by kernel_rfl) rfl ⟨rfl,rfl⟩)|exact Cx rfl (fun _ _=>NW rfl ⟨rfl,rfl⟩))(h:B):A:=k h
theorem Gl{A B:Prop}(k:B→A:=by intro b;first|exact A4 rfl (E3 rfl rfl rfl (by simp<;>omega) (by repeat constructor) b)|exact A4 rfl (Hv rfl rfl (by simp<;>omega) (by repeat constructor) b)|exact B6 (E3 rfl rfl rfl (by simp<;>omega) (by repeat constructor) b)|exact B6 (Hv rfl rfl (by simp<;>omega) (by repeat constructor) b))(h:B):A:=k h
theorem x_{A B:Prop}(k:B→A:=by intro b;first|exact A4 rfl (NE rfl rfl b)|exact B6 (NE rfl rfl b))(h:B):A:=k h
theorem B4(i:Nat){A B:Prop}(k:Do i B A:=by first|exact Cw rfl (NE rfl rfl ⟨rfl,rfl⟩)|exact Cx rfl (fun _ _=>NE rfl rfl ⟨rfl,rfl⟩))(h:B):A:=k h
theorem k_{A B:Prop}(k:B→A:=by intro b;first|exact A4 rfl (HG rfl b)|exact A4 rfl (NF rfl b)|exact B6 (HG rfl b)|exact B6 (NF rfl b))(h:B):A:=k h
theorem B7(i:Nat){A B:Prop}(k:Do i B A:=by first|exact Cw rfl (HG rfl ⟨rfl,rfl⟩)|exact Cw rfl (NF rfl ⟨rfl,rfl⟩)|exact Cx rfl (fun _ _=>HG rfl ⟨rfl,rfl⟩)|exact Cx rfl (fun _ _=>NF rfl ⟨rfl,rfl⟩))(h:B):A:=k h
theorem AT{A B:Prop}(k:B→A:=by intro b;first|exact A4 rfl (Lq (by repeat (first|exact FillA.nil _|(apply FillA.cons;(focus exact rfl);(focus exact rfl);(focus exact rfl);(focus exact rfl);(focus exact rfl);(focus (repeat constructor))))) b)|exact B6 (Lq (by repeat (first|exact FillA.nil _|(apply FillA.cons;(focus exact rfl);(focus exact rfl);(focus exact rfl);(focus exact rfl);(focus exact rfl);(focus (repeat constructor))))) b))(h:B):A:=k h
theorem Gm(i:Nat){A B:Prop}(k:Do i B A:=by first|exact Cw rfl (Lq (by repeat (first|exact FillA.nil _|(apply FillA.cons;(focus exact rfl);(focus exact rfl);(focus exact rfl);(focus exact rfl);(focus exact rfl);(focus (repeat constructor))))) ⟨rfl,rfl⟩)|exact Cx rfl (fun _ _=>Lq (by repeat (first|exact FillA.nil _|(apply FillA.cons;(focus exact rfl);(focus exact rfl);(focus exact rfl);(focus exact rfl);(focus exact rfl);(focus (repeat constructor))))) ⟨rfl,rfl⟩))(h:B):A:=k h
theorem Bm{A B:Prop}(k:B→A:=by intro b;first|exact A4 rfl (Lr (by repeat (first|exact DenseA.nil _|(apply DenseA.cons;(focus exact rfl);(focus exact rfl);(focus exact rfl);(focus exact rfl))|(apply DenseA.consE;(focus exact rfl);(focus exact rfl);(focus exact rfl)))) rfl rfl rfl rfl b)|exact B6 (Lr (by repeat (first|exact DenseA.nil _|(apply DenseA.cons;(focus exact rfl);(focus exact rfl);(focus exact rfl);(focus exact rfl))|(apply DenseA.consE;(focus exact rfl);(focus exact rfl);(focus exact rfl)))) rfl rfl rfl rfl b))(h:B):A:=k h
theorem GM(i:Nat){A B:Prop}(k:Do i B A:=by first|exact Cw rfl (Lr (by repeat (first|exact DenseA.nil _|(apply DenseA.cons;(focus exact rfl);(focus exact rfl);(focus exact rfl);(focus exact rfl))|(apply DenseA.consE;(focus exact rfl);(focus exact rfl);(focus exact rfl)))) rfl rfl rfl rfl ⟨rfl,rfl⟩)|exact Cx rfl (fun _ _=>Lr (by repeat (first|exact DenseA.nil _|(apply DenseA.cons;(focus exact rfl);(focus exact rfl);(focus exact rfl);(focus exact rfl))|(apply DenseA.consE;(focus exact rfl);(focus exact rfl);(focus exact rfl)))) rfl rfl rfl rfl ⟨rfl,rfl⟩))(h:B):A:=k h
theorem Af{A B:Prop}(k:B→A:=by intro b;first|exact A4 rfl (Ni b)|exact B6 (Ni b))(h:B):A:=k h
theorem Hy(i:Nat){A B:Prop}(k:Do i B A:=by first|exact Cw rfl (Ni ⟨rfl,rfl⟩)|exact Cx rfl (fun _ _=>Ni ⟨rfl,rfl⟩))(h:B):A:=k h
theorem Am{A B:Prop}(k:B→A:=by intro b;first|exact A4 rfl (Nj b)|exact B6 (Nj b))(h:B):A:=k h
theorem Ft(i:Nat){A B:Prop}(k:Do i B A:=by first|exact Cw rfl (Nj ⟨rfl,rfl⟩)|exact Cx rfl (fun _ _=>Nj ⟨rfl,rfl⟩))(h:B):A:=k h
theorem i_{A B:Prop}(k:B→A:=by intro b;first|exact A4 rfl (CS rfl rfl rfl (by first|assumption|rfl) b)|exact B6 (CS rfl rfl rfl (by first|assumption|rfl) b))(h:B):A:=k h
theorem Di(i:Nat){A B:Prop}(k:Do i B A:=by first|exact Cw rfl (CS rfl rfl rfl (by first|assumption|rfl) ⟨rfl,rfl⟩)|exact Cx rfl (fun _ _=>CS rfl rfl rfl (by first|assumption|rfl) ⟨rfl,rfl⟩))(h:B):A:=k h
theorem Xc{A B:Prop}(k:B→A:=by intro b;first|exact A4 rfl (SQ rfl rfl (by omega) (by repeat constructor) b)|exact B6 (SQ rfl rfl (by omega) (by repeat constructor) b))(h:B):A:=k h
theorem BA{A B:Prop}(k:B→A:=by intro b;first|exact A4 rfl (NT rfl b)|exact B6 (NT rfl b))(h:B):A:=k h
theorem PY(i:Nat){A B:Prop}(k:Do i B A:=by first|exact Cw rfl (NT rfl ⟨rfl,rfl⟩)|exact Cx rfl (fun _ _=>NT rfl ⟨rfl,rfl⟩))(h:B):A:=k h
theorem B8{A B:Prop}(k:B→A:=by intro b;first|exact A4 rfl (Ju rfl rfl (by omega) b)|exact A4 rfl (Ej rfl rfl (by omega) b)|exact A4 rfl (PC rfl rfl b)|exact B6 (Ju rfl rfl (by omega) b)|exact B6 (Ej rfl rfl (by omega) b)|exact B6 (PC rfl rfl b))(h:B):A:=k h
theorem Ns{A B:Prop}(k:B→A:=by intro b;first|exact A4 rfl (JU rfl rfl (by omega) b)|exact A4 rfl (Lp rfl rfl b)|exact B6 (JU rfl rfl (by omega) b)|exact B6 (Lp rfl rfl b))(h:B):A:=k h
theorem PZ(i:Nat){A B:Prop}(k:Do i B A:=by first|exact Cw rfl (JU rfl rfl (by omega) ⟨rfl,rfl⟩)|exact Cw rfl (Lp rfl rfl ⟨rfl,rfl⟩)|exact Cx rfl (fun _ _=>JU rfl rfl (by omega) ⟨rfl,rfl⟩)|exact Cx rfl (fun _ _=>Lp rfl rfl ⟨rfl,rfl⟩))(h:B):A:=k h
theorem Xd{A B:Prop}(k:B→A:=by intro b;first|exact A4 rfl (S4 rfl rfl b)|exact B6 (S4 rfl rfl b))(h:B):A:=k h
theorem AQ{A B:Prop}(k:B→A:=by intro b;first|exact A4 rfl (NM rfl rfl b)|exact A4 rfl (NQ rfl rfl b)|exact A4 rfl (Nf (by kernel_rfl) rfl rfl b)|exact B6 (NM rfl rfl b)|exact B6 (NQ rfl rfl b)|exact B6 (Nf (by kernel_rfl) rfl rfl b))(h:B):A:=k h
theorem Hz(i:Nat){A B:Prop}(k:Do i B A:=by first|exact Cw rfl (NM rfl rfl ⟨rfl,rfl⟩)|exact Cw rfl (NQ rfl rfl ⟨rfl,rfl⟩)|exact Cw rfl (Nf (by kernel_rfl) rfl rfl ⟨rfl,rfl⟩)|exact Cx rfl (fun _ _=>NM rfl rfl ⟨rfl,rfl⟩)|exact Cx rfl (fun _ _=>NQ rfl rfl ⟨rfl,rfl⟩)|exact Cx rfl (fun _ _=>Nf (by kernel_rfl) rfl rfl ⟨rfl,rfl⟩))(h:B):A:=k h
theorem BF{A B:Prop}(k:B→A:=by intro b;first|exact A4 rfl (NN rfl rfl b)|exact A4 rfl (NR rfl rfl b)|exact A4 rfl (Lx (by kernel_rfl) rfl rfl b)|exact B6 (NN rfl rfl b)|exact B6 (NR rfl rfl b)|exact B6 (Lx (by kernel_rfl) rfl rfl b))(h:B):A:=k h
theorem Kt(i:Nat){A B:Prop}(k:Do i B A:=by first|exact Cw rfl (NN rfl rfl ⟨rfl,rfl⟩)|exact Cw rfl (NR rfl rfl ⟨rfl,rfl⟩)|exact Cw rfl (Lx (by kernel_rfl) rfl rfl ⟨rfl,rfl⟩)|exact Cx rfl (fun _ _=>NN rfl rfl ⟨rfl,rfl⟩)|exact Cx rfl (fun _ _=>NR rfl rfl ⟨rfl,rfl⟩)|exact Cx rfl (fun _ _=>Lx (by kernel_rfl) rfl rfl ⟨rfl,rfl⟩))(h:B):A:=k h
theorem BJ{A B:Prop}(k:B→A:=by intro b;first|exact A4 rfl (S6 rfl rfl b)|exact A4 rfl (S9 rfl rfl b)|exact B6 (S6 rfl rfl b)|exact B6 (S9 rfl rfl b))(h:B):A:=k h
theorem M7{A B:Prop}(k:B→A:=by intro b;first|exact A4 rfl (NO rfl rfl b)|exact B6 (NO rfl rfl b))(h:B):A:=k h
theorem Xe(i:Nat){A B:Prop}(k:Do i B A:=by first|exact Cw rfl (NO rfl rfl ⟨rfl,rfl⟩)|exact Cx rfl (fun _ _=>NO rfl rfl ⟨rfl,rfl⟩))(h:B):A:=k h
theorem CZ{A B:Prop}(k:B→A:=by intro b;first|exact A4 rfl (NP rfl rfl b)|exact B6 (NP rfl rfl b))(h:B):A:=k h
theorem Pa(i:Nat){A B:Prop}(k:Do i B A:=by first|exact Cw rfl (NP rfl rfl ⟨rfl,rfl⟩)|exact Cx rfl (fun _ _=>NP rfl rfl ⟨rfl,rfl⟩))(h:B):A:=k h
theorem Fu{A B:Prop}(k:B→A:=by intro b;first|exact A4 rfl (S7 rfl rfl b)|exact A4 rfl (SA rfl rfl b)|exact B6 (S7 rfl rfl b)|exact B6 (SA rfl rfl b))(h:B):A:=k h
theorem EP{A B:Prop}(k:B→A:=by intro b;first|exact A4 rfl (SS rfl rfl b)|exact B6 (SS rfl rfl b))(h:B):A:=k h
theorem at_{A B:Prop}(k:B→A:=by intro b;first|exact A4 rfl (SZ rfl rfl b)|exact B6 (SZ rfl rfl b))(h:B):A:=k h
theorem Sk{A B:Prop}(k:B→A:=by intro b;first|exact A4 rfl (ST rfl rfl (by omega) b)|exact B6 (ST rfl rfl (by omega) b))(h:B):A:=k h
theorem Bc{f:Nat→Option AV}{bx:List (List AV)}{tk:List (Nat×Nat×List (List AV))}{l:List (Nat×AV)}{N:Dim}(n m:Nat){bx':List (List AV)}{tk':List (Nat×Nat×List (List AV))}(hbp:Ag n m bx'=true)(hn:Nat.ble N.ni n=true:=by rfl)(hb:bx.take n=bx':=by rfl)(ht:tk.take m=tk':=by rfl)(hl:Sub n m f l:=by repeat (first|exact Sub.nil|refine Sub.cons _ _ _ rfl rfl ?_|refine Sub.any _ _ ?_|refine Sub.sl _ _ _ _ _ rfl ?_|refine Sub.slnil _ _ _ rfl ?_)):Weak N ⟨f,⟨bx,tk⟩⟩ ⟨look l,⟨bx',tk'⟩⟩:=Az n m hn hb ht hbp hl
theorem Ca{P:Program}{ev:Operand→Option AV}{h:AH}{R:AV→AH→Prop}{d:Option Tmp}{ty:TypeId}{pos:String}{af:Array Edge}{gd:Option (Nat×Bool)}{T:TypeId}{l:List (Nat×Operand)}{pl:List (Nat×Nat)}{row cs:List AV}[hp:Plc P T pl][hz:Zer P T row](hR:R (.agg cs) h)(hf:FillA pl ev row l cs:=by repeat (first|exact FillA.nil _|(apply FillA.cons;(focus exact rfl);(focus exact rfl);(focus exact rfl);(focus exact rfl);(focus exact rfl);(focus (repeat constructor))))):AStep P ⟨d, .build T l.toArray,ty,pos,af,gd⟩ ev h R:=Lq hf hR
theorem EQ{P:Program}{ev:Operand→Option AV}{h:AH}{R:AV→AH→Prop}{o:Oper}{x y:AV}(hs:AStep P o ev h fun r h'=>r=x∧h'=h)(hR:R y h)(hl:LeA x y:=by repeat (first|exact LeA.refl _|exact LeA.nil _|exact LeL.refl _|refine LeA.agg ?_|refine LeA.tup ?_|exact LeL.nil|refine LeL.cons ?_ ?_|exact LeA.any _)):AStep P o ev h R:=EC hs hl hR
instance :Typ Tryz.prog 3 1 false:=⟨by kernel_rfl⟩
instance :Typ Tryz.prog 4 1 false:=⟨by kernel_rfl⟩
instance :Typ Tryz.prog 9 1 false:=⟨by kernel_rfl⟩
instance :Typ Tryz.prog 22 1 false:=⟨by kernel_rfl⟩
instance :Elm Tryz.prog 22 3 1 8:=⟨by kernel_rfl,by decide⟩
instance :Typ Tryz.prog 26 1 false:=⟨by kernel_rfl⟩
instance :Elm Tryz.prog 26 120 2 32:=⟨by kernel_rfl,by decide⟩
instance :Typ Tryz.prog 28 1 true:=⟨by kernel_rfl⟩
instance :Zer Tryz.prog 28 [.v (.slice none 0 0)]:=⟨[.slice none 0 0],by kernel_rfl,rfl,rfl⟩
instance :Plc Tryz.prog 28 [(0,1)]:=⟨by kernel_rfl⟩
instance :Fld Tryz.prog 28 0 0 1:=⟨by kernel_rfl⟩
instance :Typ Tryz.prog 29 1 false:=⟨by kernel_rfl⟩
instance :Elm Tryz.prog 29 149 3 24:=⟨by kernel_rfl,by decide⟩
instance :Typ Tryz.prog 31 2 true:=⟨by kernel_rfl⟩
instance :Zer Tryz.prog 31 [.v (.slice none 0 0), .v (.slice none 0 0)]:=⟨[.slice none 0 0, .slice none 0 0],by kernel_rfl,rfl,rfl⟩
instance :Plc Tryz.prog 31 [(0,1),(1,1)]:=⟨by kernel_rfl⟩
instance :Fld Tryz.prog 31 0 0 1:=⟨by kernel_rfl⟩
instance :Fld Tryz.prog 31 1 1 1:=⟨by kernel_rfl⟩
instance :Typ Tryz.prog 36 2 true:=⟨by kernel_rfl⟩
instance :Zer Tryz.prog 36 [.v (.int .i64 0), .v (.int .i64 0)]:=⟨[.int .i64 0, .int .i64 0],by kernel_rfl,rfl,rfl⟩
instance :Plc Tryz.prog 36 [(0,1),(1,1)]:=⟨by kernel_rfl⟩
instance :Fld Tryz.prog 36 0 0 1:=⟨by kernel_rfl⟩
instance :Fld Tryz.prog 36 1 1 1:=⟨by kernel_rfl⟩
instance :Typ Tryz.prog 38 6 true:=⟨by kernel_rfl⟩
instance :Zer Tryz.prog 38 [.v (.int .i64 0), .v (.int .i64 0), .v (.int .i64 0), .v (.string ⟨#[]⟩), .v (.int .i64 0), .v (.int .i64 0)]:=⟨[.int .i64 0, .int .i64 0, .int .i64 0, .string ⟨#[]⟩, .int .i64 0, .int .i64 0],by kernel_rfl,rfl,rfl⟩
instance :Plc Tryz.prog 38 [(0,1),(1,2),(3,1),(4,2)]:=⟨by kernel_rfl⟩
instance :Fld Tryz.prog 38 0 0 1:=⟨by kernel_rfl⟩
instance :Fld Tryz.prog 38 1 1 2:=⟨by kernel_rfl⟩
instance :Fld Tryz.prog 38 2 3 1:=⟨by kernel_rfl⟩
instance :Fld Tryz.prog 38 3 4 2:=⟨by kernel_rfl⟩
instance :Typ Tryz.prog 39 1 false:=⟨by kernel_rfl⟩
instance :Typ Tryz.prog 52 13 true:=⟨by kernel_rfl⟩
instance :Zer Tryz.prog 52 [.v (.string ⟨#[]⟩), .v (.string ⟨#[]⟩), .v (.int .i64 0), .v (.int .i64 0), .v (.string ⟨#[]⟩), .v (.int .i64 0), .v (.int .i64 0), .v (.int .i64 0), .v (.int .i64 0), .v (.int .i64 0), .v (.int .i64 0), .v (.int .i64 0), .v (.int .i64 0)]:=⟨[.string ⟨#[]⟩, .string ⟨#[]⟩, .int .i64 0, .int .i64 0, .string ⟨#[]⟩, .int .i64 0, .int .i64 0, .int .i64 0, .int .i64 0, .int .i64 0, .int .i64 0, .int .i64 0, .int .i64 0],by kernel_rfl,rfl,rfl⟩
instance :Plc Tryz.prog 52 [(0,1),(1,1),(2,2),(4,1),(5,2),(7,1),(8,1),(9,1),(10,1),(11,1),(12,1)]:=⟨by kernel_rfl⟩
instance :Fld Tryz.prog 52 2 2 2:=⟨by kernel_rfl⟩
instance :Fld Tryz.prog 52 3 4 1:=⟨by kernel_rfl⟩
instance :Fld Tryz.prog 52 4 5 2:=⟨by kernel_rfl⟩
instance :Fld Tryz.prog 52 5 7 1:=⟨by kernel_rfl⟩
instance :Fld Tryz.prog 52 6 8 1:=⟨by kernel_rfl⟩
instance :Fld Tryz.prog 52 7 9 1:=⟨by kernel_rfl⟩
instance :Fld Tryz.prog 52 8 10 1:=⟨by kernel_rfl⟩
instance :Fld Tryz.prog 52 9 11 1:=⟨by kernel_rfl⟩
instance :Typ Tryz.prog 53 1 false:=⟨by kernel_rfl⟩
instance :Elm Tryz.prog 53 61 14 144:=⟨by kernel_rfl,by decide⟩
instance :Typ Tryz.prog 55 3 true:=⟨by kernel_rfl⟩
instance :Zer Tryz.prog 55 [.v (.int .i64 0), .v (.int .i64 0), .v (.slice none 0 0)]:=⟨[.int .i64 0, .int .i64 0, .slice none 0 0],by kernel_rfl,rfl,rfl⟩
instance :Plc Tryz.prog 55 [(0,1),(1,1),(2,1)]:=⟨by kernel_rfl⟩
instance :Fld Tryz.prog 55 0 0 1:=⟨by kernel_rfl⟩
instance :Fld Tryz.prog 55 1 1 1:=⟨by kernel_rfl⟩
instance :Fld Tryz.prog 55 2 2 1:=⟨by kernel_rfl⟩
instance :Typ Tryz.prog 57 5 true:=⟨by kernel_rfl⟩
instance :Zer Tryz.prog 57 [.v (.slice none 0 0), .v (.slice none 0 0), .v (.int .i64 0), .v (.int .i64 0), .v (.slice none 0 0)]:=⟨[.slice none 0 0, .slice none 0 0, .int .i64 0, .int .i64 0, .slice none 0 0],by kernel_rfl,rfl,rfl⟩
instance :Plc Tryz.prog 57 [(0,2),(2,3)]:=⟨by kernel_rfl⟩
instance :Fld Tryz.prog 57 0 0 2:=⟨by kernel_rfl⟩
instance :Fld Tryz.prog 57 1 2 3:=⟨by kernel_rfl⟩
instance :Typ Tryz.prog 59 1 false:=⟨by kernel_rfl⟩
instance :Elm Tryz.prog 59 243 4 32:=⟨by kernel_rfl,by decide⟩
instance :Typ Tryz.prog 61 14 true:=⟨by kernel_rfl⟩
instance :Zer Tryz.prog 61 [.v (.int .i64 0), .v (.int .i64 0), .v (.int .i64 0), .v (.int .i64 0), .v (.int .i64 0), .v (.int .i64 0), .v (.int .i64 0), .v (.int .i64 0), .v (.int .i64 0), .v (.int .i64 0), .v (.string ⟨#[]⟩), .v (.string ⟨#[]⟩), .v (.slice none 0 0), .v (.bool false)]:=⟨[.int .i64 0, .int .i64 0, .int .i64 0, .int .i64 0, .int .i64 0, .int .i64 0, .int .i64 0, .int .i64 0, .int .i64 0, .int .i64 0, .string ⟨#[]⟩, .string ⟨#[]⟩, .slice none 0 0, .bool false],by kernel_rfl,rfl,rfl⟩
instance :Plc Tryz.prog 61 [(0,1),(1,1),(2,1),(3,1),(4,1),(5,1),(6,1),(7,1),(8,2),(10,1),(11,1),(12,1),(13,1)]:=⟨by kernel_rfl⟩
instance :Fld Tryz.prog 61 0 0 1:=⟨by kernel_rfl⟩
instance :Fld Tryz.prog 61 1 1 1:=⟨by kernel_rfl⟩
instance :Fld Tryz.prog 61 2 2 1:=⟨by kernel_rfl⟩
instance :Fld Tryz.prog 61 3 3 1:=⟨by kernel_rfl⟩
instance :Fld Tryz.prog 61 4 4 1:=⟨by kernel_rfl⟩
instance :Fld Tryz.prog 61 5 5 1:=⟨by kernel_rfl⟩
instance :Fld Tryz.prog 61 6 6 1:=⟨by kernel_rfl⟩
instance :Fld Tryz.prog 61 7 7 1:=⟨by kernel_rfl⟩
instance :Fld Tryz.prog 61 8 8 2:=⟨by kernel_rfl⟩
instance :Fld Tryz.prog 61 9 10 1:=⟨by kernel_rfl⟩
instance :Fld Tryz.prog 61 10 11 1:=⟨by kernel_rfl⟩
instance :Fld Tryz.prog 61 11 12 1:=⟨by kernel_rfl⟩
instance :Typ Tryz.prog 62 4 true:=⟨by kernel_rfl⟩
instance :Zer Tryz.prog 62 [.v (.int .i64 0), .v (.int .i64 0), .v (.int .i64 0), .v (.int .i64 0)]:=⟨[.int .i64 0, .int .i64 0, .int .i64 0, .int .i64 0],by kernel_rfl,rfl,rfl⟩
instance :Plc Tryz.prog 62 [(0,1),(1,1),(2,1),(3,1)]:=⟨by kernel_rfl⟩
instance :Typ Tryz.prog 63 1 false:=⟨by kernel_rfl⟩
instance :Elm Tryz.prog 63 9 1 16:=⟨by kernel_rfl,by decide⟩
instance :Typ Tryz.prog 65 7 true:=⟨by kernel_rfl⟩
instance :Zer Tryz.prog 65 [.v (.int .i64 0), .v (.int .i64 0), .v (.int .i64 0), .v (.int .i64 0), .v (.int .i64 0), .v (.slice none 0 0), .v (.slice none 0 0)]:=⟨[.int .i64 0, .int .i64 0, .int .i64 0, .int .i64 0, .int .i64 0, .slice none 0 0, .slice none 0 0],by kernel_rfl,rfl,rfl⟩
instance :Plc Tryz.prog 65 [(0,1),(1,4),(5,1),(6,1)]:=⟨by kernel_rfl⟩
instance :Fld Tryz.prog 65 0 0 1:=⟨by kernel_rfl⟩
instance :Fld Tryz.prog 65 1 1 4:=⟨by kernel_rfl⟩
instance :Fld Tryz.prog 65 2 5 1:=⟨by kernel_rfl⟩
instance :Fld Tryz.prog 65 3 6 1:=⟨by kernel_rfl⟩
instance :Typ Tryz.prog 66 1 false:=⟨by kernel_rfl⟩
instance :Elm Tryz.prog 66 52 13 128:=⟨by kernel_rfl,by decide⟩
instance :Typ Tryz.prog 69 1 false:=⟨by kernel_rfl⟩
instance :Elm Tryz.prog 69 79 7 64:=⟨by kernel_rfl,by decide⟩
instance :Typ Tryz.prog 71 5 true:=⟨by kernel_rfl⟩
instance :Zer Tryz.prog 71 [.v (.int .i64 0), .v (.int .i64 0), .v (.int .i64 0), .v (.slice none 0 0), .v (.slice none 0 0)]:=⟨[.int .i64 0, .int .i64 0, .int .i64 0, .slice none 0 0, .slice none 0 0],by kernel_rfl,rfl,rfl⟩
instance :Plc Tryz.prog 71 [(0,1),(1,1),(2,1),(3,1),(4,1)]:=⟨by kernel_rfl⟩
instance :Fld Tryz.prog 71 0 0 1:=⟨by kernel_rfl⟩
instance :Fld Tryz.prog 71 1 1 1:=⟨by kernel_rfl⟩
instance :Fld Tryz.prog 71 2 2 1:=⟨by kernel_rfl⟩
instance :Fld Tryz.prog 71 3 3 1:=⟨by kernel_rfl⟩
instance :Fld Tryz.prog 71 4 4 1:=⟨by kernel_rfl⟩
instance :Typ Tryz.prog 79 7 true:=⟨by kernel_rfl⟩
instance :Zer Tryz.prog 79 [.v (.int .i64 0), .v (.int .i64 0), .v (.string ⟨#[]⟩), .v (.int .i64 0), .v (.int .i64 0), .v (.int .i64 0), .v (.int .i64 0)]:=⟨[.int .i64 0, .int .i64 0, .string ⟨#[]⟩, .int .i64 0, .int .i64 0, .int .i64 0, .int .i64 0],by kernel_rfl,rfl,rfl⟩
instance :Plc Tryz.prog 79 [(0,2),(2,1),(3,2),(5,2)]:=⟨by kernel_rfl⟩
instance :Fld Tryz.prog 79 0 0 2:=⟨by kernel_rfl⟩
instance :Fld Tryz.prog 79 1 2 1:=⟨by kernel_rfl⟩
instance :Fld Tryz.prog 79 2 3 2:=⟨by kernel_rfl⟩
instance :Fld Tryz.prog 79 3 5 2:=⟨by kernel_rfl⟩
instance :Typ Tryz.prog 99 1 false:=⟨by kernel_rfl⟩
instance :Elm Tryz.prog 99 138 2 24:=⟨by kernel_rfl,by decide⟩
instance :Typ Tryz.prog 101 8 true:=⟨by kernel_rfl⟩
instance :Zer Tryz.prog 101 [.v (.int .i64 0), .v (.int .i64 0), .v (.int .i64 0), .v (.int .i64 0), .v (.int .i64 0), .v (.int .i64 0), .v (.string ⟨#[]⟩), .v (.slice none 0 0)]:=⟨[.int .i64 0, .int .i64 0, .int .i64 0, .int .i64 0, .int .i64 0, .int .i64 0, .string ⟨#[]⟩, .slice none 0 0],by kernel_rfl,rfl,rfl⟩
instance :Plc Tryz.prog 101 [(0,1),(1,1),(2,1),(3,1),(4,1),(5,1),(6,1),(7,1)]:=⟨by kernel_rfl⟩
instance :Fld Tryz.prog 101 0 0 1:=⟨by kernel_rfl⟩
instance :Fld Tryz.prog 101 1 1 1:=⟨by kernel_rfl⟩
instance :Fld Tryz.prog 101 2 2 1:=⟨by kernel_rfl⟩
instance :Fld Tryz.prog 101 3 3 1:=⟨by kernel_rfl⟩
instance :Fld Tryz.prog 101 4 4 1:=⟨by kernel_rfl⟩
instance :Fld Tryz.prog 101 5 5 1:=⟨by kernel_rfl⟩
instance :Fld Tryz.prog 101 6 6 1:=⟨by kernel_rfl⟩
instance :Fld Tryz.prog 101 7 7 1:=⟨by kernel_rfl⟩
instance :Zer Tryz.prog 106 [.v (.slice none 0 0), .v (.int .i64 0)]:=⟨[.slice none 0 0, .int .i64 0],by kernel_rfl,rfl,rfl⟩
instance :Plc Tryz.prog 106 [(0,1),(1,1)]:=⟨by kernel_rfl⟩
instance :Fld Tryz.prog 106 0 0 1:=⟨by kernel_rfl⟩
instance :Fld Tryz.prog 106 1 1 1:=⟨by kernel_rfl⟩
instance :Typ Tryz.prog 113 8 true:=⟨by kernel_rfl⟩
instance :Zer Tryz.prog 113 [.v (.int .i64 0), .v (.int .i64 0), .v (.string ⟨#[]⟩), .v (.int .i64 0), .v (.int .i64 0), .v (.bool false), .v (.bool false), .v (.string ⟨#[]⟩)]:=⟨[.int .i64 0, .int .i64 0, .string ⟨#[]⟩, .int .i64 0, .int .i64 0, .bool false, .bool false, .string ⟨#[]⟩],by kernel_rfl,rfl,rfl⟩
instance :Plc Tryz.prog 113 [(0,2),(2,1),(3,2),(5,1),(6,1),(7,1)]:=⟨by kernel_rfl⟩
instance :Fld Tryz.prog 113 0 0 2:=⟨by kernel_rfl⟩
instance :Fld Tryz.prog 113 1 2 1:=⟨by kernel_rfl⟩
instance :Fld Tryz.prog 113 2 3 2:=⟨by kernel_rfl⟩
instance :Fld Tryz.prog 113 3 5 1:=⟨by kernel_rfl⟩
instance :Fld Tryz.prog 113 4 6 1:=⟨by kernel_rfl⟩
instance :Fld Tryz.prog 113 5 7 1:=⟨by kernel_rfl⟩
instance :Typ Tryz.prog 118 1 false:=⟨by kernel_rfl⟩
instance :Elm Tryz.prog 118 101 8 88:=⟨by kernel_rfl,by decide⟩
instance :Typ Tryz.prog 120 2 true:=⟨by kernel_rfl⟩
instance :Zer Tryz.prog 120 [.v (.int .i64 0), .v (.slice none 0 0)]:=⟨[.int .i64 0, .slice none 0 0],by kernel_rfl,rfl,rfl⟩
instance :Plc Tryz.prog 120 [(0,1),(1,1)]:=⟨by kernel_rfl⟩
instance :Fld Tryz.prog 120 0 0 1:=⟨by kernel_rfl⟩
instance :Fld Tryz.prog 120 1 1 1:=⟨by kernel_rfl⟩
instance :Zer Tryz.prog 122 [.v (.int .i64 0), .v (.int .i64 0), .v (.int .i64 0), .v (.int .i64 0)]:=⟨[.int .i64 0, .int .i64 0, .int .i64 0, .int .i64 0],by kernel_rfl,rfl,rfl⟩
instance :Plc Tryz.prog 122 [(0,2),(2,2)]:=⟨by kernel_rfl⟩
instance :Typ Tryz.prog 128 1 false:=⟨by kernel_rfl⟩
instance :Elm Tryz.prog 128 113 8 72:=⟨by kernel_rfl,by decide⟩
instance :Zer Tryz.prog 130 [.v (.slice none 0 0), .v (.slice none 0 0), .v (.int .i64 0), .v (.int .i64 0), .v (.slice none 0 0), .v (.int .i64 0), .v (.int .i64 0), .v (.int .i64 0), .v (.int .i64 0), .v (.int .i64 0), .v (.int .i64 0), .v (.int .i64 0), .v (.int .i64 0), .v (.int .i64 0), .v (.int .i64 0), .v (.string ⟨#[]⟩), .v (.string ⟨#[]⟩), .v (.slice none 0 0), .v (.bool false), .v (.int .i64 0), .v (.int .i64 0), .v (.int .i64 0), .v (.int .i64 0), .v (.int .i64 0), .v (.slice none 0 0), .v (.slice none 0 0), .v (.slice none 0 0), .v (.int .i64 0), .v (.int .i64 0), .v (.int .i64 0), .v (.slice none 0 0), .v (.slice none 0 0)]:=⟨[.slice none 0 0, .slice none 0 0, .int .i64 0, .int .i64 0, .slice none 0 0, .int .i64 0, .int .i64 0, .int .i64 0, .int .i64 0, .int .i64 0, .int .i64 0, .int .i64 0, .int .i64 0, .int .i64 0, .int .i64 0, .string ⟨#[]⟩, .string ⟨#[]⟩, .slice none 0 0, .bool false, .int .i64 0, .int .i64 0, .int .i64 0, .int .i64 0, .int .i64 0, .slice none 0 0, .slice none 0 0, .slice none 0 0, .int .i64 0, .int .i64 0, .int .i64 0, .slice none 0 0, .slice none 0 0],by kernel_rfl,rfl,rfl⟩
instance :Plc Tryz.prog 130 [(0,5),(5,14),(19,7),(26,1),(27,5)]:=⟨by kernel_rfl⟩
instance :Fld Tryz.prog 130 0 0 5:=⟨by kernel_rfl⟩
instance :Fld Tryz.prog 130 1 5 14:=⟨by kernel_rfl⟩
instance :Fld Tryz.prog 130 2 19 7:=⟨by kernel_rfl⟩
instance :Fld Tryz.prog 130 3 26 1:=⟨by kernel_rfl⟩
instance :Fld Tryz.prog 130 4 27 5:=⟨by kernel_rfl⟩
instance :Typ Tryz.prog 138 2 true:=⟨by kernel_rfl⟩
instance :Zer Tryz.prog 138 [.v (.string ⟨#[]⟩), .v (.int .i64 0)]:=⟨[.string ⟨#[]⟩, .int .i64 0],by kernel_rfl,rfl,rfl⟩
instance :Plc Tryz.prog 138 [(0,1),(1,1)]:=⟨by kernel_rfl⟩
instance :Fld Tryz.prog 138 0 0 1:=⟨by kernel_rfl⟩
instance :Fld Tryz.prog 138 1 1 1:=⟨by kernel_rfl⟩
instance :Elm Tryz.prog 140 39 1 8:=⟨by kernel_rfl,by decide⟩
instance :Typ Tryz.prog 149 3 true:=⟨by kernel_rfl⟩
instance :Zer Tryz.prog 149 [.v (.int .i64 0), .v (.int .i64 0), .v (.int .i64 0)]:=⟨[.int .i64 0, .int .i64 0, .int .i64 0],by kernel_rfl,rfl,rfl⟩
instance :Plc Tryz.prog 149 [(0,1),(1,2)]:=⟨by kernel_rfl⟩
instance :Fld Tryz.prog 149 0 0 1:=⟨by kernel_rfl⟩
instance :Fld Tryz.prog 149 1 1 2:=⟨by kernel_rfl⟩
instance :Elm Tryz.prog 150 36 2 16:=⟨by kernel_rfl,by decide⟩
instance :Typ Tryz.prog 167 11 true:=⟨by kernel_rfl⟩
instance :Zer Tryz.prog 167 [.v (.slice none 0 0), .v (.slice none 0 0), .v (.slice none 0 0), .v (.int .i64 0), .v (.int .i64 0), .v (.int .i64 0), .v (.int .i64 0), .v (.string ⟨#[]⟩), .v (.bool false), .v (.bool false), .v (.int .i64 0)]:=⟨[.slice none 0 0, .slice none 0 0, .slice none 0 0, .int .i64 0, .int .i64 0, .int .i64 0, .int .i64 0, .string ⟨#[]⟩, .bool false, .bool false, .int .i64 0],by kernel_rfl,rfl,rfl⟩
instance :Plc Tryz.prog 167 [(0,2),(2,1),(3,2),(5,2),(7,1),(8,1),(9,1),(10,1)]:=⟨by kernel_rfl⟩
instance :Fld Tryz.prog 167 0 0 2:=⟨by kernel_rfl⟩
instance :Fld Tryz.prog 167 1 2 1:=⟨by kernel_rfl⟩
instance :Fld Tryz.prog 167 2 3 2:=⟨by kernel_rfl⟩
instance :Fld Tryz.prog 167 3 5 2:=⟨by kernel_rfl⟩
instance :Fld Tryz.prog 167 4 7 1:=⟨by kernel_rfl⟩
instance :Fld Tryz.prog 167 5 8 1:=⟨by kernel_rfl⟩
instance :Fld Tryz.prog 167 6 9 1:=⟨by kernel_rfl⟩
instance :Fld Tryz.prog 167 7 10 1:=⟨by kernel_rfl⟩
instance :Typ Tryz.prog 181 5 true:=⟨by kernel_rfl⟩
instance :Zer Tryz.prog 181 [.v (.string ⟨#[]⟩), .v (.int .i64 0), .v (.int .i64 0), .v (.int .i64 0), .v (.int .i64 0)]:=⟨[.string ⟨#[]⟩, .int .i64 0, .int .i64 0, .int .i64 0, .int .i64 0],by kernel_rfl,rfl,rfl⟩
instance :Plc Tryz.prog 181 [(0,1),(1,1),(2,1),(3,1),(4,1)]:=⟨by kernel_rfl⟩
instance :Fld Tryz.prog 181 0 0 1:=⟨by kernel_rfl⟩
instance :Fld Tryz.prog 181 1 1 1:=⟨by kernel_rfl⟩
instance :Fld Tryz.prog 181 2 2 1:=⟨by kernel_rfl⟩
instance :Fld Tryz.prog 181 3 3 1:=⟨by kernel_rfl⟩
instance :Fld Tryz.prog 181 4 4 1:=⟨by kernel_rfl⟩
instance :Elm Tryz.prog 206 181 5 48:=⟨by kernel_rfl,by decide⟩
instance :Typ Tryz.prog 243 4 true:=⟨by kernel_rfl⟩
instance :Zer Tryz.prog 243 [.v (.int .i64 0), .v (.int .i64 0), .v (.int .i64 0), .v (.int .i64 0)]:=⟨[.int .i64 0, .int .i64 0, .int .i64 0, .int .i64 0],by kernel_rfl,rfl,rfl⟩
instance :Plc Tryz.prog 243 [(0,1),(1,2),(3,1)]:=⟨by kernel_rfl⟩
instance :Fld Tryz.prog 243 0 0 1:=⟨by kernel_rfl⟩
instance :Fld Tryz.prog 243 1 1 2:=⟨by kernel_rfl⟩
instance :Fun Tryz.prog 11:=⟨by kernel_rfl⟩
instance :Fun Tryz.prog 12:=⟨by kernel_rfl⟩
instance :Fun Tryz.prog 14:=⟨by kernel_rfl⟩
instance :Fun Tryz.prog 15:=⟨by kernel_rfl⟩
instance :Fun Tryz.prog 16:=⟨by kernel_rfl⟩
instance :Fun Tryz.prog 17:=⟨by kernel_rfl⟩
instance :Fun Tryz.prog 18:=⟨by kernel_rfl⟩
instance :Fun Tryz.prog 20:=⟨by kernel_rfl⟩
instance :Fun Tryz.prog 21:=⟨by kernel_rfl⟩
instance :Fun Tryz.prog 22:=⟨by kernel_rfl⟩
instance :Fun Tryz.prog 23:=⟨by kernel_rfl⟩
instance :Fun Tryz.prog 24:=⟨by kernel_rfl⟩
instance :Fun Tryz.prog 27:=⟨by kernel_rfl⟩
instance :Fun Tryz.prog 30:=⟨by kernel_rfl⟩
instance :Fun Tryz.prog 32:=⟨by kernel_rfl⟩
instance :Fun Tryz.prog 33:=⟨by kernel_rfl⟩
instance :Fun Tryz.prog 35:=⟨by kernel_rfl⟩
instance :Fun Tryz.prog 36:=⟨by kernel_rfl⟩
instance :Fun Tryz.prog 37:=⟨by kernel_rfl⟩
instance :Fun Tryz.prog 38:=⟨by kernel_rfl⟩
instance :Fun Tryz.prog 39:=⟨by kernel_rfl⟩
instance :Fun Tryz.prog 41:=⟨by kernel_rfl⟩
instance :Fun Tryz.prog 42:=⟨by kernel_rfl⟩
instance :Fun Tryz.prog 43:=⟨by kernel_rfl⟩
instance :Fun Tryz.prog 44:=⟨by kernel_rfl⟩
instance :Fun Tryz.prog 45:=⟨by kernel_rfl⟩
instance :Fun Tryz.prog 46:=⟨by kernel_rfl⟩
instance :Fun Tryz.prog 47:=⟨by kernel_rfl⟩
instance :Fun Tryz.prog 49:=⟨by kernel_rfl⟩
instance :Fun Tryz.prog 50:=⟨by kernel_rfl⟩
instance :Fun Tryz.prog 51:=⟨by kernel_rfl⟩
instance :Fun Tryz.prog 52:=⟨by kernel_rfl⟩
instance :Fun Tryz.prog 53:=⟨by kernel_rfl⟩
instance :Fun Tryz.prog 54:=⟨by kernel_rfl⟩
instance :Fun Tryz.prog 55:=⟨by kernel_rfl⟩
instance :Fun Tryz.prog 56:=⟨by kernel_rfl⟩
instance :Fun Tryz.prog 57:=⟨by kernel_rfl⟩
instance :Fun Tryz.prog 58:=⟨by kernel_rfl⟩
instance :Fun Tryz.prog 59:=⟨by kernel_rfl⟩
instance :Fun Tryz.prog 61:=⟨by kernel_rfl⟩
instance :Fun Tryz.prog 62:=⟨by kernel_rfl⟩
instance :Fun Tryz.prog 63:=⟨by kernel_rfl⟩
instance :Fun Tryz.prog 64:=⟨by kernel_rfl⟩
instance :Fun Tryz.prog 65:=⟨by kernel_rfl⟩
instance :Fun Tryz.prog 66:=⟨by kernel_rfl⟩
instance :Fun Tryz.prog 67:=⟨by kernel_rfl⟩
instance :Fun Tryz.prog 68:=⟨by kernel_rfl⟩
instance :Fun Tryz.prog 69:=⟨by kernel_rfl⟩
instance :Fun Tryz.prog 70:=⟨by kernel_rfl⟩
instance :Fun Tryz.prog 71:=⟨by kernel_rfl⟩
instance :Fun Tryz.prog 72:=⟨by kernel_rfl⟩
instance :Fun Tryz.prog 73:=⟨by kernel_rfl⟩
instance :Fun Tryz.prog 74:=⟨by kernel_rfl⟩
instance :Fun Tryz.prog 75:=⟨by kernel_rfl⟩
instance :Fun Tryz.prog 76:=⟨by kernel_rfl⟩
instance :Fun Tryz.prog 77:=⟨by kernel_rfl⟩
instance :Fun Tryz.prog 78:=⟨by kernel_rfl⟩
instance :Fun Tryz.prog 79:=⟨by kernel_rfl⟩
instance :Fun Tryz.prog 81:=⟨by kernel_rfl⟩
instance :Fun Tryz.prog 82:=⟨by kernel_rfl⟩
instance :Fun Tryz.prog 83:=⟨by kernel_rfl⟩
instance :Fun Tryz.prog 84:=⟨by kernel_rfl⟩
instance :Fun Tryz.prog 85:=⟨by kernel_rfl⟩
instance :Fun Tryz.prog 86:=⟨by kernel_rfl⟩
instance :Fun Tryz.prog 88:=⟨by kernel_rfl⟩
instance :Fun Tryz.prog 91:=⟨by kernel_rfl⟩
instance :Fun Tryz.prog 92:=⟨by kernel_rfl⟩
instance :Fun Tryz.prog 93:=⟨by kernel_rfl⟩
instance :Fun Tryz.prog 94:=⟨by kernel_rfl⟩
instance :Fun Tryz.prog 95:=⟨by kernel_rfl⟩
instance :Fun Tryz.prog 96:=⟨by kernel_rfl⟩
instance :Fun Tryz.prog 97:=⟨by kernel_rfl⟩
instance :Fun Tryz.prog 98:=⟨by kernel_rfl⟩
instance :Fun Tryz.prog 99:=⟨by kernel_rfl⟩
instance :Fun Tryz.prog 100:=⟨by kernel_rfl⟩
instance :Fun Tryz.prog 101:=⟨by kernel_rfl⟩
instance :Fun Tryz.prog 102:=⟨by kernel_rfl⟩
instance :Fun Tryz.prog 103:=⟨by kernel_rfl⟩
instance :Fun Tryz.prog 105:=⟨by kernel_rfl⟩
instance :Fun Tryz.prog 107:=⟨by kernel_rfl⟩
instance :Fun Tryz.prog 108:=⟨by kernel_rfl⟩
instance :Fun Tryz.prog 109:=⟨by kernel_rfl⟩
instance :Fun Tryz.prog 110:=⟨by kernel_rfl⟩
instance :Fun Tryz.prog 111:=⟨by kernel_rfl⟩
instance :Fun Tryz.prog 112:=⟨by kernel_rfl⟩
instance :Fun Tryz.prog 113:=⟨by kernel_rfl⟩
instance :Fun Tryz.prog 114:=⟨by kernel_rfl⟩
instance :Fun Tryz.prog 115:=⟨by kernel_rfl⟩
instance :Fun Tryz.prog 116:=⟨by kernel_rfl⟩
instance :Fun Tryz.prog 117:=⟨by kernel_rfl⟩
instance :Fun Tryz.prog 118:=⟨by kernel_rfl⟩
instance :Fun Tryz.prog 119:=⟨by kernel_rfl⟩
instance :Fun Tryz.prog 120:=⟨by kernel_rfl⟩
instance :Fun Tryz.prog 121:=⟨by kernel_rfl⟩
instance :Fun Tryz.prog 122:=⟨by kernel_rfl⟩
instance :Fun Tryz.prog 124:=⟨by kernel_rfl⟩
instance :Fun Tryz.prog 125:=⟨by kernel_rfl⟩
instance :Fun Tryz.prog 126:=⟨by kernel_rfl⟩
instance :Fun Tryz.prog 127:=⟨by kernel_rfl⟩
instance :Fun Tryz.prog 132:=⟨by kernel_rfl⟩
instance :Fun Tryz.prog 134:=⟨by kernel_rfl⟩
instance :Fun Tryz.prog 135:=⟨by kernel_rfl⟩
instance :Fun Tryz.prog 136:=⟨by kernel_rfl⟩
instance :Fun Tryz.prog 137:=⟨by kernel_rfl⟩
instance :Fun Tryz.prog 138:=⟨by kernel_rfl⟩
instance :Fun Tryz.prog 139:=⟨by kernel_rfl⟩
instance :Fun Tryz.prog 140:=⟨by kernel_rfl⟩
instance :Fun Tryz.prog 141:=⟨by kernel_rfl⟩
instance :Fun Tryz.prog 142:=⟨by kernel_rfl⟩
instance :Fun Tryz.prog 143:=⟨by kernel_rfl⟩
instance :Fun Tryz.prog 145:=⟨by kernel_rfl⟩
instance :Fun Tryz.prog 147:=⟨by kernel_rfl⟩
instance :Fun Tryz.prog 148:=⟨by kernel_rfl⟩
instance :Fun Tryz.prog 149:=⟨by kernel_rfl⟩
instance :Fun Tryz.prog 150:=⟨by kernel_rfl⟩
instance :Fun Tryz.prog 151:=⟨by kernel_rfl⟩
instance :Fun Tryz.prog 152:=⟨by kernel_rfl⟩
instance :Fun Tryz.prog 153:=⟨by kernel_rfl⟩
instance :Fun Tryz.prog 154:=⟨by kernel_rfl⟩
instance :Fun Tryz.prog 155:=⟨by kernel_rfl⟩
instance :Fun Tryz.prog 156:=⟨by kernel_rfl⟩
instance :Fun Tryz.prog 157:=⟨by kernel_rfl⟩
instance :Fun Tryz.prog 158:=⟨by kernel_rfl⟩
instance :Fun Tryz.prog 159:=⟨by kernel_rfl⟩
instance :Fun Tryz.prog 160:=⟨by kernel_rfl⟩
instance :Fun Tryz.prog 161:=⟨by kernel_rfl⟩
instance :Fun Tryz.prog 162:=⟨by kernel_rfl⟩
instance :Fun Tryz.prog 163:=⟨by kernel_rfl⟩
instance :Fun Tryz.prog 164:=⟨by kernel_rfl⟩
instance :Fun Tryz.prog 165:=⟨by kernel_rfl⟩
instance :Fun Tryz.prog 166:=⟨by kernel_rfl⟩
instance :Fun Tryz.prog 177:=⟨by kernel_rfl⟩
instance :Fun Tryz.prog 181:=⟨by kernel_rfl⟩
instance :Fun Tryz.prog 182:=⟨by kernel_rfl⟩
instance :Fun Tryz.prog 187:=⟨by kernel_rfl⟩
instance :Fun Tryz.prog 188:=⟨by kernel_rfl⟩
instance :Fun Tryz.prog 189:=⟨by kernel_rfl⟩
instance :Fun Tryz.prog 190:=⟨by kernel_rfl⟩
instance :Fun Tryz.prog 191:=⟨by kernel_rfl⟩
end Go.Proofs.YtbglbmnhgbgelaaGreatDoor
namespace Go.Proofs.YtbglbmnhgbgelaaGreatDoor
abbrev AE:=ByteArray
abbrev A9:=Int×Int
abbrev BK:=AE×Int
abbrev D6:=Int×A9
abbrev Dj:=A9×AE×A9×A9
structure Nod where
 ino:Int
 kind:Int
 mode:Int
 uid:Int
 gid:Int
 parent:Int
 target:AE
 entries:List BK
structure Dvc where
 next:Int
 nodes:List Nod
abbrev AZ:=List Dvc
structure Spc where
 files:AZ
 mounts:List D6
def Nod.zero:Nod:=⟨0,0,0,0,0,0,⟨#[]⟩,[]⟩
def K8{α:Type}(p:α→Bool)(l:List α):Int:=
 match l.findIdx? p with
 |some i=>(i:Int)
 |none=> -1
def EE{α:Type}(l:List α)(i:Int):Option α:=if i<0 then none else l[i.toNat]?
theorem K9{α:Type}(l:List α)(k:Nat):EE l (k:Int)=l[k]?:=by
 simp[EE,show¬((k:Int)<0) by omega]
theorem Nt{α:Type}{l:List α}{i:Int}(h:i<0∨(l.length:Int)≤i):EE l i=none:=by
 unfold EE
 split
 ·rfl
 rw[List.getElem?_eq_none];omega
theorem Xf{α:Type}{l:List α}{i:Int}{x:α}(h:EE l i=some x):0≤i∧i<l.length∧l[i.toNat]?=some x:=by
 unfold EE at h
 split at h
 ·cases h
 have:=(Ar.1 h).1
 exact⟨by omega,by omega,h⟩
theorem Sl{α:Type}{p:α→Bool}{l:List α}{m:Nat}{x:α}(hx:l[m]?=some x)(hp:p x=true)(h:∀j y,j<m→l[j]?=some y→p y=false):l.findIdx? p=some m:=by
 have hl:m<l.length:=(Ar.1 hx).1
 rw[List.findIdx?_eq_some_iff_getElem]
 refine⟨hl,by rw[(Ar.1 hx).2];exact hp,fun j hj=>?_⟩
 have:=h j l[j] hj (B3 _)
 simp[this]
theorem Sm{α:Type}{p:α→Bool}{l:List α}{m:Nat}{x:α}(hx:l[m]?=some x)(hp:p x=true)(h:∀j y,j<m→l[j]?=some y→p y=false):K8 p l=m:=by
 unfold K8
 rw[Sl hx hp h]
theorem Xg{α:Type}{p:α→Bool}{l:List α}(h:∀j y,j<l.length→l[j]?=some y→p y=false):K8 p l= -1:=by
 unfold K8
 rw[List.findIdx?_eq_none_iff.2]
 intro x hx
 obtain⟨j,hj,rfl⟩:=List.mem_iff_getElem.1 hx
 exact h j _ hj (B3 hj)
theorem Dw{α:Type}{P:α→Prop}{l:List α}{m:Nat}{x:α}(hx:l[m]?=some x)(h:∀j y,j<m→l[j]?=some y→P y)(hp:P x):∀j y,j<m+1→l[j]?=some y→P y:=by
 intro j y hj hy
 by_cases e:j=m
 ·subst e
  rw[hx]at hy
  cases hy
  exact hp
 exact h j y (by omega) hy
def F8(f:AZ)(at_:A9):Int:=
 match EE f at_.1 with
 |none=> -1
 |some d=>K8 (fun n:Nod=>n.ino==at_.2) d.nodes
def Bk(f:AZ)(at_:A9):Option Nod:=
 match EE f at_.1 with
 |none=>none
 |some d=>d.nodes.find? (fun n:Nod=>n.ino==at_.2)
theorem Sn{α:Type}{p:α→Bool}{l:List α}:(l.findIdx? p).bind (fun i=>l[i]?)=l.find? p:=by
 cases h:l.findIdx? p with
 |none=>
   rw[List.findIdx?_eq_none_iff]at h
   simp only[Option.bind_none]
   exact(List.find?_eq_none.2 (fun x hx=>by simp[h x hx])).symm
 |some i=>
   obtain⟨hi,hp,hf⟩:=List.findIdx?_eq_some_iff_getElem.1 h
   simp only[Option.bind_some,B3 hi]
   exact(List.find?_eq_some_iff_getElem.2 ⟨hp,i,hi,rfl,fun j hj=>by simpa using hf j hj⟩).symm
theorem J0(f:AZ)(at_:A9):(F8 f at_= -1∧Bk f at_=none)∨
    ∃(k i:Nat) (d:Dvc) (n:Nod),at_.1=k∧f[k]?=some d∧d.nodes[i]?=some n∧n.ino=at_.2∧F8 f at_=i∧Bk f at_=some n:=by
 unfold F8 Bk
 cases h:EE f at_.1 with
 |none=>exact .inl ⟨rfl,rfl⟩
 |some d=>
   obtain⟨h0,h1,h2⟩:=Xf h
   simp only[←Sn]
   unfold K8
   cases hi:d.nodes.findIdx? (fun n:Nod=>n.ino==at_.2)with
   |none=>exact .inl ⟨rfl,rfl⟩
   |some i=>
     obtain⟨hl,hp,_⟩:=List.findIdx?_eq_some_iff_getElem.1 hi
     exact .inr ⟨at_.1.toNat,i,d,d.nodes[i],by omega,h2,B3 hl,by simpa using hp,rfl,by simp⟩
theorem Nu(a b:AE):(a.toList==b.toList)=decide (a=b):=by
 rw[ByteArray.toList_eq,ByteArray.toList_eq,Bool.eq_iff_iff]
 simp only[beq_iff_eq,decide_eq_true_eq]
 constructor
 ·intro h
  cases a with
  |mk a=>
    cases b with
    |mk b=>exact congrArg ByteArray.mk (Array.toList_inj.1 h)
 intro h
 rw[h]
def J1(c:UInt8):Bool:= !((c.toNat:Int)==0)&& !((c.toNat:Int)==47)
def DU(s:AE):Bool:=
 if s.size<1∨12<s.size then false else if(s.toList==[46])=true then false else if(s.toList==[46,46])=true then false else s.data.toList.all J1
def KA(s:AE):Bool:=s.data.toList.all (fun c=> !((c.toNat:Int)==0))&&decide (1≤s.size)&&decide (s.size≤128)
theorem So{p:UInt8→Bool}{s:AE}(h:∀j (hj:j<s.size),p s[j]=true):s.data.toList.all p=true:=by
 rw[List.all_eq_true]
 intro c hc
 obtain⟨j,hj,rfl⟩:=List.mem_iff_getElem.1 hc
 exact h j (by simpa using hj)
theorem Pb{p:UInt8→Bool}{s:AE}{j:Nat}(hj:j<s.size)(h:p s[j]=false):s.data.toList.all p=false:=by
 rw[List.all_eq_false]
 refine⟨s[j],?_,by simp[h]⟩
 have:s[j]=s.data.toList[j]'(by simpa using hj):=rfl
 rw[this]
 exact List.getElem_mem _
theorem Sq{p:UInt8→Bool}{s:AE}{m:Nat}(hm:m<s.size)(h:∀j (hj:j<s.size),j<m→p s[j]=true)(hp:p s[m]=true):∀j (hj:j<s.size),j<m+1→p s[j]=true:=by
 intro j hj hlt
 by_cases e:j=m
 ·subst e;exact hp
 exact h j hj (by omega)
def AX(f:AZ)(at_:A9):Bool:=
 match Bk f at_ with
 |none=>false
 |some n=>n.kind==2
def CF(f:AZ)(dir:A9)(name:AE):Int:=
 match Bk f dir with
 |none=>2
 |some n=>if n.kind=2 then(if DU name then 0 else 22)else 20
def J2(f:AZ)(dir:A9):Bool:=
 match Bk f dir with
 |none=>false
 |some n=>decide (12≤n.entries.length)
def Ja(f:AZ)(dir:A9):Bool:=
 match Bk f dir with
 |none=>true
 |some n=>decide (n.entries.length=0)
def AM(f:AZ)(dir:A9)(name:AE):A9×Int:=
 match Bk f dir with
 |none=>((0,0),2)
 |some n=>if n.kind=2 then
     match n.entries.find? (fun e:BK=>decide (e.1=name))with
     |none=>((0,0),2)
     |some e=>((dir.1,e.2),0)
   else((0,0),20)
def En(n:Nod):Bool:=
 if n.kind<1∨3<n.kind∨n.mode<0∨511<n.mode∨n.uid<0∨4294967295<n.uid∨n.gid<0∨4294967295<n.gid then false
 else if n.kind=3 then KA n.target else n.target.toList.isEmpty
end Go.Proofs.YtbglbmnhgbgelaaGreatDoor
namespace Go.Proofs.YtbglbmnhgbgelaaGreatDoor
def Eo(a b:AE):Bool:=Op.bytesLess a.toList b.toList
def FV(name:AE)(ino:Int):Bool→List BK→List BK
 |done,[]=>if done then[]else[(name,ino)]
 |done,e::r=>
   (if !done&& !Eo e.1 name then[(name,ino)]else[])++((if e.1=name then[]else[e])++FV name ino (done|| !Eo e.1 name) r)
def Cb(es:List BK)(name:AE)(ino:Int):List BK:=FV name ino (ino==0) es
def Ci(ino:Int)(es:List BK):Nat:=es.countP fun e:BK=>e.2==ino
def Bb(ino:Int)(ns:List Nod):Nat:=Ci ino (ns.flatMap fun n=>n.entries)
def GN(f:AZ)(at_:A9):Nat:=
 match Bk f at_,EE f at_.1 with
 |some _,some d=>Bb at_.2 d.nodes
 |_,_=>0
theorem Pc{ino:Int}{es:List BK}{k:Nat}{e:BK}(h:es[k]?=some e):Ci ino (es.take (k+1))=Ci ino (es.take k)+(if e.2==ino then 1 else 0):=by
 unfold Ci
 rw[List.take_add_one,h,List.countP_append]
 simp[List.countP_cons]
theorem Xh(ino:Int)(es:List BK):Ci ino es≤es.length:=List.countP_le_length
theorem Xi{ino:Int}{ns:List Nod}{m:Nat}{n:Nod}(h:ns[m]?=some n):Bb ino (ns.take (m+1))=Bb ino (ns.take m)+Ci ino n.entries:=by
 unfold Bb Ci
 rw[List.take_add_one,h,List.flatMap_append,List.countP_append]
 simp
def Cj(ino:Int)(ns:List Nod):List Nod:=ns.filter fun n=>n.ino != ino
def Nv:Nod:=⟨1,2,493,0,0,1,⟨#[]⟩,[]⟩
def Ku:Dvc:=⟨2,[Nv]⟩
def ER(n:Int):AZ×Int:=if n<1∨3<n then([],50)else(List.replicate n.toNat Ku,0)
abbrev DP:=AZ×List Dj×Int
def ES(n:Nod)(next dirIno:Int):Nod:=⟨next,n.kind,n.mode,n.uid,n.gid,if n.kind=2 then dirIno else 0,n.target,[]⟩
end Go.Proofs.YtbglbmnhgbgelaaGreatDoor
namespace Go.Proofs.YtbglbmnhgbgelaaGreatDoor
open Go.RowKit
theorem CW{α:Type}(enc:α→List AV){l:List α}{k:Nat}(h:(k:Int)<((l.map enc).length:Int)):k<l.length∧∃x,l[k]?=some x∧(l.map enc)[k]?=some (enc x)∧(l.take (k+1)).map enc=(l.take k).map enc++[enc x]:=by
 have hk:k<l.length:=by simpa using h
 refine⟨hk,l[k],B3 hk,by simp[hk],?_⟩
 rw[List.take_succ_eq_append_getElem hk,List.map_append]
 rfl
theorem Ck{α:Type}(enc:α→List AV){l:List α}{k:Nat}(hk:k≤l.length)(h:¬(k:Int)<((l.map enc).length:Int)):k=l.length:=by
 simp at h
 omega
theorem vb{a b:Bool}(h:a=b):AV.v (.bool a)=AV.v (.bool b):=by rw[h]
theorem vi{k:IntKind}{a b:Int}(h:a=b):AV.v (.int k a)=AV.v (.int k b):=by rw[h]
def AA(x:A9):List AV:=[.v (.int .i64 x.1), .v (.int .i64 x.2)]
def CU(e:BK):List AV:=[.v (.string e.1), .v (.int .i64 e.2)]
def Ah(n:Nod):List AV:=[.v (.int .i64 n.ino), .v (.int .i64 n.kind), .v (.int .i64 n.mode), .v (.int .i64 n.uid), .v (.int .i64 n.gid), .v (.int .i64 n.parent), .v (.string n.target), .sl 2 (n.entries.map CU) none]
def Bn(d:Dvc):List AV:=[.v (.int .i64 d.next), .sl 8 (d.nodes.map Ah) none]
def As(f:AZ):List AV:=[.sl 2 (f.map Bn) none]
structure FlsB(f:AZ):Prop where
 few:f.length≤1000
 nodes:∀d∈f,d.nodes.length≤1000
 ents:∀d∈f,∀n∈d.nodes,n.entries.length≤1000
theorem Pd{f:AZ}{a:A9}{k:Nat}{d:Dvc}(hk:a.1=(k:Int))(hd:f[k]?=some d):F8 f a=K8 (fun n:Nod=>n.ino==a.2) d.nodes:=by
 unfold F8;rw[hk,K9,hd]
def Aa(f:AZ)(a:A9):Nod:=(Bk f a).getD Nod.zero
def Cy(f:AZ)(a:A9):Bool:=(Bk f a).isSome
theorem Fv(f:AZ)(a:A9):AX f a=(Cy f a&&decide ((Aa f a).kind=2)):=by
 unfold AX Cy Aa
 cases Bk f a<;>simp[PD]
theorem M8{f:AZ}(hf:FlsB f)(a:A9):(Aa f a).entries.length≤1000:=by
 rcases J0 f a with⟨-,h⟩|⟨k,i,d,n, -,h1,h2, -, -,h⟩
 ·simp[Aa,h,Nod.zero]
 simp only[Aa,h,Option.getD_some]
 exact hf.ents d (Au h1) n (Au h2)
section
theorem Jb(f:AZ)(a:A9)(hf:FlsB f):AFn Tryz.prog 78 [.agg (As f), .agg (AA a)] (fun r=>r= .v (.int .i64 (F8 f a))):=by
 refine enter Tryz.func78 rfl rfl rfl rfl rfl 0 rfl ?_
 refine w_ (b_ (h:=b_ (h:=a_ (h:=e_ (q_ (w_ (f_ (h:=l_ (h:=BJ (h:=m_ (h:=?_)))))))))))
 refine Ax false rfl rfl (fun hb1=>?_) (fun hb1=>?_)
 ·have hc1:=bp hb1
  refine A3 (h:=A3 (h:=A3 (h:=A3 (h:=A3 (h:=A3 (h:=Af (h:=e_ (Bf (h:=w_ (a_ (h:=e_ (A6 (A7 (?_))))))))))))))
  refine AB ?_
  exact vi (by unfold F8;rw[Nt (.inl hc1)])
 have hc1:=bp hb1
 refine f_ (h:=l_ (h:=f_ (h:=l_ (h:=n_ (h:=Fu (h:=Am (h:=e_ (?_))))))))
 refine A8 rfl (fun hb2=>?_) (fun hb2=>?_)
 ·have hc2:=bp hb2
  refine w_ (a_ (h:=e_ (A6 (A7 (?_)))))
  refine AB ?_
  exact vi (by unfold F8;rw[Nt (.inr (by rw[List.length_map]at hc2;exact hc2))])
 have hc2:=bp hb2
 obtain⟨k,hk⟩:=Int.eq_ofNat_of_zero_le (show 0≤a.1 by omega)
 rw[hk]at hc2
 obtain⟨-,d,hd,hrow, -⟩:=CW Bn (l:=f) (k:=k) (by omega)
 have hdn:=hf.nodes d (Au hd)
 refine AG (w_ (f_ (h:=l_ (h:=f_ (h:=l_ (h:=?_))))))
 refine A4 rfl (CS (n:=k) rfl rfl hk hrow ?_)
 refine f_ (h:=l_ (h:=a_ (h:=e_ (q_ (w_ (a_ (h:=e_ (Ao (?_)))))))))
 refine Ba (fun m s=>∃j:Nat,j≤d.nodes.length∧m=d.nodes.length - j∧(∀i y,i<j→d.nodes[i]?=some y→(y.ino==a.2)=false)∧s=⟨look [(3, .bp 1 0),(5, .sl 8 (d.nodes.map Ah) none),(6, .v (.int .i64 (j:Int)))],⟨[As f,AA a],[]⟩⟩) (d.nodes.length) ((wk 2 0)) (⟨0,by omega,rfl,fun i y hi=>by omega,rfl⟩) ?_
 rintro m s ⟨j,hj,rfl,ha,rfl⟩
 refine q_ (w_ (m_ (h:=m_ (h:=n_ (h:=BJ (h:=e_ (?_)))))))
 refine A8 rfl (fun hb3=>?_) (fun hb3=>?_)
 ·have hc3:=bp hb3
  obtain⟨hlt,n,hy,hrow2, -⟩:=CW Ah hc3
  refine AG (q_ (Ao (q_ (DT 8 (h:=AN 0 (h:=AN 1 (h:=Di 2 (h:=AF 3 (h:=AJ 4 (h:=AF 5 (h:=AJ 6 (h:=Hz 7 (h:=z_ (h:=t_ (?_)))))))))))))))
  refine A8 rfl (fun hb4=>?_) (fun hb4=>?_)
  ·have hc4:=bp hb4
   refine w_ (m_ (h:=a_ (h:=e_ (A6 (AR (A7 (A7 (AR (A7 (?_))))))))))
   refine AB ?_
   exact vi (by rw[Pd hk hd];exact(Sm hy (by simpa using hc4) ha).symm)
  have hc4:=bp hb4
  refine BB (Ay (t_ (AP (m_ (h:=B8 (h:=a_ (h:=AO (?_))))))))
  refine AD ?_
  refine⟨_,_,?_,⟨j+1,by omega,rfl,Dw hy ha (by simpa using hc4),rfl⟩,(wk 2 0)⟩
  omega
 have hc3:=bp hb3
 have e:=Ck Ah hj hc3
 subst e
 refine BO (Aq (Aq (BQ (t_ (w_ (a_ (h:=e_ (A6 (?_)))))))))
 refine AB ?_
 exact vi (by rw[Pd hk hd];exact(Xg (fun i y hi hy=>ha i y hi hy)).symm)
theorem Dk(f:AZ)(a:A9)(hf:FlsB f):AFn Tryz.prog 70 [.agg (As f), .agg (AA a)] (fun r=>r= .tup [.agg (Ah (Aa f a)), .v (.bool (Cy f a))]):=by
 refine enter Tryz.func70 rfl rfl rfl rfl rfl 0 rfl ?_
 refine w_ (b_ (h:=b_ (h:=AW (h:=a_ (h:=e_ (w_ (l_ (h:=l_ (h:=?_)))))))))
 refine A4 rfl (AK (Jb f a hf) ?_)
 rintro r rfl
 refine a_ (h:=e_ (q_ (w_ (m_ (h:=BJ (h:=e_ (?_)))))))
 refine A8 rfl (fun hb1=>?_) (fun hb1=>?_)
 ·have hc1:=bp hb1
  have e:Bk f a=none:=by
   rcases J0 f a with h|⟨k,i,d,n, -, -, -, -,h, -⟩
   ·exact h.2
   exfalso;omega
  refine w_ (AT (h:=s_ (h:=a_ (h:=e_ (A6 (A7 (?_)))))))
  refine Aj (r:= .tup [.agg (Ah (Aa f a)), .v (.bool (Cy f a))]) none (h5:=?_) (h6:=⟨rfl,rfl,rfl⟩)
  rw[show Aa f a=Nod.zero by simp[Aa,e],show Cy f a=false by simp[Cy,e]]
  exact(by repeat (first|exact LeA.refl _|exact LeA.nil _|exact LeL.refl _|refine LeA.agg ?_|refine LeA.tup ?_|exact LeL.nil|refine LeL.cons ?_ ?_|exact LeA.any _))
 have hc1:=bp hb1
 obtain⟨k,i,d,n,g1,g2,g3,g4,g5,g6⟩:=(J0 f a).resolve_left (fun h=>by omega)
 rw[g5]
 have hr1:(f.map Bn)[k]?=some (Bn d):=by rw[List.getElem?_map,g2];rfl
 have hr2:(d.nodes.map Ah)[i]?=some (Ah n):=by rw[List.getElem?_map,g3];rfl
 have hen:=hf.ents d (Au g2) n (Au g3)
 refine AG (w_ (f_ (h:=l_ (h:=f_ (h:=l_ (h:=?_))))))
 refine A4 rfl (CS (n:=k) rfl rfl g1 hr1 ?_)
 refine f_ (h:=l_ (h:=m_ (h:=?_)))
 refine A4 rfl (CS (n:=i) rfl rfl rfl hr2 ?_)
 refine l_ (h:=AW (h:=s_ (h:=e_ (w_ (f_ (h:=l_ (h:=?_)))))))
 first|refine A4 rfl (E3 rfl rfl rfl (by simp;omega) (by repeat constructor) ?_)|refine A4 rfl (Hv rfl rfl (by simp;omega) (by repeat constructor) ?_)
 refine f_ (h:=s_ (h:=e_ (w_ (l_ (h:=s_ (h:=a_ (h:=e_ (A6 (?_)))))))))
 refine AB ?_
 rw[show Aa f a=n by simp[Aa,g6],show Cy f a=true by simp[Cy,g6]]
 rfl
theorem GO(f:AZ)(a:A9)(hf:FlsB f):AFn Tryz.prog 41 [.agg (As f), .agg (AA a)] (fun r=>r= .v (.bool (AX f a))):=by
 refine enter Tryz.func41 rfl rfl rfl rfl rfl 0 rfl ?_
 refine w_ (b_ (h:=b_ (h:=a_ (h:=e_ (w_ (l_ (h:=l_ (h:=?_))))))))
 refine A4 rfl (AK (Dk f a hf) ?_)
 rintro r rfl
 refine m_ (h:=x_ (h:=x_ (h:=AW (h:=s_ (h:=a_ (h:=e_ (w_ (m_ (h:=m_ (h:=?_))))))))))
 refine Ax true rfl rfl (fun hb1=>?_) (fun hb1=>?_)
 ·have hc1:=bp hb1
  refine f_ (h:=l_ (h:=AQ (h:=Af (h:=a_ (h:=e_ (A6 (?_)))))))
  refine AB ?_
  exact vb (by rw[Fv];simp[*])
 have hc1:=bp hb1
 refine A3 (h:=A3 (h:=A3 (h:=Am (h:=a_ (h:=e_ (A6 (?_)))))))
 refine AB ?_
 exact vb (by rw[Fv];simp[*])
end
theorem HU{α:Type}{p:α→Bool}{l:List α}{j:Nat}{x:α}(hx:l[j]?=some x)(hp:p x=true)(h:∀i y,i<j→l[i]?=some y→p y=false):l.find? p=some x:=by
 have:=Sl hx hp h
 rw[←Sn,this]
 simpa using hx
theorem Ha{α:Type}{p:α→Bool}{l:List α}(h:∀i y,i<l.length→l[i]?=some y→p y=false):l.find? p=none:=by
 rw[List.find?_eq_none]
 intro x hx
 obtain⟨i,hi,rfl⟩:=List.mem_iff_getElem.1 hx
 simp[h i _ hi (B3 hi)]
theorem Sr{f:AZ}{a:A9}(h:Cy f a=true):Bk f a=some (Aa f a):=by
 unfold Cy at h
 unfold Aa
 cases hn:Bk f a with
 |none=>rw[hn]at h;cases h
 |some n=>rfl
theorem Ss{f:AZ}{a:A9}(h:Cy f a=false):Bk f a=none:=by
 unfold Cy at h
 cases hn:Bk f a with
 |none=>rfl
 |some n=>rw[hn]at h;cases h
section
theorem Gp(f:AZ)(a:A9)(name:AE)(hf:FlsB f):AFn Tryz.prog 38 [.agg (As f), .agg (AA a), .v (.string name)] (fun r=>r= .tup [.agg (AA (AM f a name).1), .v (.int .i64 (AM f a name).2)]):=by
 have hen:=M8 hf a
 refine enter Tryz.func38 rfl rfl rfl rfl rfl 0 rfl ?_
 refine w_ (b_ (h:=b_ (h:=AW (h:=a_ (h:=e_ (w_ (l_ (h:=l_ (h:=?_)))))))))
 refine A4 rfl (AK (Dk f a hf) ?_)
 rintro r rfl
 refine m_ (h:=x_ (h:=x_ (h:=AW (h:=s_ (h:=a_ (h:=e_ (q_ (w_ (m_ (h:=BA (h:=e_ (?_))))))))))))
 refine A8 rfl (fun hb1=>?_) (fun hb1=>?_)
 ·have hc1:=bp hb1
  have e:=Ss hc1
  refine w_ (AT (h:=s_ (h:=a_ (h:=e_ (A6 (A7 (?_)))))))
  refine AB ?_
  rw[show AM f a name=((0,0),2) by simp[AM,e]]
  rfl
 have hc1:=bp hb1
 have e:=Sr hc1
 refine AG (q_ (w_ (f_ (h:=l_ (h:=BF (h:=e_ (?_)))))))
 refine A8 rfl (fun hb2=>?_) (fun hb2=>?_)
 ·have hc2:=bp hb2
  refine w_ (AT (h:=s_ (h:=a_ (h:=e_ (A6 (A7 (?_)))))))
  refine AB ?_
  rw[show AM f a name=((0,0),20) by simp[AM,e,hc2]]
  rfl
 have hc2:=bp hb2
 refine AG (q_ (w_ (a_ (h:=e_ (Ao (?_))))))
 refine Ba (fun m s=>∃j:Nat,j≤(Aa f a).entries.length∧m=(Aa f a).entries.length - j∧(∀i y,i<j→(Aa f a).entries[i]?=some y→decide (y.1=name)=false)∧s=⟨look [(2, .v (.string name)),(4, .bp 1 0),(6, .bp 2 0),(8, .bp 3 0),(10, .v (.int .i64 (j:Int)))],⟨[As f,AA a,[.v (.int .i64 0), .v (.int .i64 0)],Ah (Aa f a)],[]⟩⟩) ((Aa f a).entries.length) ((wk 4 0)) (⟨0,by omega,rfl,fun i y hi=>by omega,rfl⟩) ?_
 rintro m s ⟨j,hj,rfl,ha,rfl⟩
 refine q_ (w_ (m_ (h:=f_ (h:=l_ (h:=n_ (h:=BJ (h:=e_ (?_))))))))
 refine A8 rfl (fun hb3=>?_) (fun hb3=>?_)
 ·have hc3:=bp hb3
  obtain⟨hlt,x,hy,hrow, -⟩:=CW CU hc3
  refine AG (q_ (Ao (w_ (f_ (h:=l_ (h:=m_ (h:=i_ (h:=f_ (h:=l_ (h:=m_ (h:=AQ (h:=e_ (?_)))))))))))))
  refine A8 rfl (fun hb4=>?_) (fun hb4=>?_)
  ·have hc4:=bp hb4
   refine q_ (BH ([(0,As f),(1,AA a),(3,Ah (Aa f a))]) 11 (h:=AF 0 (h:=AJ 1 (h:=AF 2 (h:=AJ 3 (h:=AN 4 (h:=Di 5 (h:=AF 6 (h:=AJ 7 (h:=Gm 8 (h:=?_)))))))))))
   refine B0 9 rfl (Aw rfl rfl rfl rfl rfl rfl (by repeat constructor) (by repeat constructor) ?_)
   refine o_ (h:=BC 10 (h:=z_ (h:=t_ (A6 (AR (A7 (A7 (AR (A7 (?_))))))))))
   refine AB ?_
   rw[show AM f a name=((a.1,x.2),0) by simp only[AM,e];rw[if_pos (by omega),HU hy (by simpa using hc4) ha]]
   rfl
  have hc4:=bp hb4
  refine BB (Ay (t_ (AP (m_ (h:=B8 (h:=a_ (h:=AO (?_))))))))
  refine AD ?_
  refine⟨_,_,?_,⟨j+1,by omega,rfl,Dw hy ha (by simpa using hc4),rfl⟩,(wk 4 0)⟩
  omega
 have hc3:=bp hb3
 have e3:=Ck CU hj hc3
 subst e3
 refine BO (Aq (Aq (BQ (t_ (w_ (AT (h:=s_ (h:=a_ (h:=e_ (A6 (?_)))))))))))
 refine AB ?_
 rw[show AM f a name=((0,0),2) by simp only[AM,e];rw[if_pos (by omega),Ha ha]]
 rfl
end
theorem J3{P:Program}{ev:Operand→Option AV}{h:AH}{R:AV→AH→Prop}{d:Option Tmp}{ty:TypeId}{pos:String}{af:Array Edge}{gd:Option (Nat×Bool)}{T:TypeId}{x ix:Operand}{s:ByteArray}{n:Nat}{k:IntKind}{i:Int}(hu:P.underlying T=some .string)
    (hx:ev x=some (.v (.string s))) (hi:ev ix=some (.v (.int k i))) (hn:i=(n:Int)) (hlt:n<s.size) (hR:R (.v (.int .u8 (s[n].toNat:Int))) h):AStep P ⟨d, .index T x ix,ty,pos,af,gd⟩ ev h R:=by
 refine D3 (fun _ G w ec _ he=>?_) hR
 have h1:=he x (by simp[Op.operands]) _ hx
 have h2:=he ix (by simp[Op.operands]) _ hi
 simp only[rep]at h1 h2
 subst hn
 refine⟨.int .u8 (s[n].toNat:Int),?_,by simp only[rep]⟩
 have e:s[n]?=some s[n]:=getElem?_pos s n hlt
 simp[execOp,h1,h2,Instr.index,asIntOf,run_underlying hu,e]
theorem Jc(s:AE):DU s=if s.size<1∨12<s.size then false else if s=⟨#[46]⟩then false else if s=⟨#[46,46]⟩then false else s.data.toList.all J1:=by
 unfold DU
 have e1:=Nu s ⟨#[46]⟩
 have e2:=Nu s ⟨#[46,46]⟩
 rw[show(⟨#[46]⟩:ByteArray).toList=[46] by rw[ByteArray.toList_eq]]at e1
 rw[show(⟨#[46,46]⟩:ByteArray).toList=[46,46] by rw[ByteArray.toList_eq]]at e2
 rw[e1,e2]
 simp only[decide_eq_true_eq]
theorem Xj{c:UInt8}(h1:¬(c.toNat:Int)=0)(h2:¬(c.toNat:Int)=47):J1 c=true:=by
 unfold J1;simp;omega
section
theorem Pe(s:AE)(hs:s.size≤100000):AFn Tryz.prog 61 [.v (.string s)] (fun r=>r= .v (.bool (DU s))):=by
 refine enter Tryz.func61 rfl rfl rfl rfl rfl 0 rfl ?_
 refine w_ (a_ (h:=e_ (q_ (w_ (m_ (h:=n_ (h:=BJ (h:=m_ (h:=?_)))))))))
 refine Ax false rfl rfl (fun hb1=>?_) (fun hb1=>?_)
 ·have hc1:=bp hb1
  refine A3 (h:=A3 (h:=A3 (h:=Af (h:=m_ (h:=A3 (h:=A3 (h:=Af (h:=m_ (h:=A3 (h:=A3 (h:=Af (h:=e_ (Bf (h:=w_ (a_ (h:=e_ (A6 (A7 (?_)))))))))))))))))))
  refine AB ?_
  exact vb (by rw[Jc,if_pos (by omega)])
 have hc1:=bp hb1
 refine m_ (h:=n_ (h:=CZ (h:=Am (h:=m_ (h:=?_)))))
 refine Ax false rfl rfl (fun hb2=>?_) (fun hb2=>?_)
 ·have hc2:=bp hb2
  refine A3 (h:=A3 (h:=Af (h:=m_ (h:=A3 (h:=A3 (h:=Af (h:=e_ (Bf (h:=w_ (a_ (h:=e_ (A6 (A7 (?_))))))))))))))
  refine AB ?_
  exact vb (by rw[Jc,if_pos (by omega)])
 have hc2:=bp hb2
 refine m_ (h:=AQ (h:=Am (h:=m_ (h:=?_))))
 refine Ax false rfl rfl (fun hb3=>?_) (fun hb3=>?_)
 ·have hc3:=bp hb3
  refine A3 (h:=A3 (h:=Af (h:=e_ (Bf (h:=w_ (a_ (h:=e_ (A6 (A7 (?_))))))))))
  refine AB ?_
  exact vb (by rw[Jc,if_neg (by omega),if_pos hc3])
 have hc3:=bp hb3
 refine m_ (h:=AQ (h:=Am (h:=e_ (?_))))
 refine A8 rfl (fun hb4=>?_) (fun hb4=>?_)
 ·have hc4:=bp hb4
  refine w_ (a_ (h:=e_ (A6 (A7 (?_)))))
  refine AB ?_
  exact vb (by rw[Jc,if_neg (by omega),if_neg hc3,if_pos hc4])
 have hc4:=bp hb4
 refine AG (q_ (w_ (a_ (h:=e_ (Ao (?_))))))
 refine Ba (fun m t=>∃j:Nat,j≤s.size∧m=s.size - j∧(∀i (hi:i<s.size),i<j→J1 s[i]=true)∧t=⟨look [(0, .v (.string s)),(3, .v (.int .i64 (j:Int)))],⟨[],[]⟩⟩) (s.size) ((wk 0 0)) (⟨0,by omega,rfl,fun i _ hi=>by omega,rfl⟩) ?_
 rintro m t ⟨j,hj,rfl,ha,rfl⟩
 refine q_ (w_ (m_ (h:=m_ (h:=n_ (h:=BJ (h:=e_ (?_)))))))
 refine A8 rfl (fun hb5=>?_) (fun hb5=>?_)
 ·have hc5:=bp hb5
  have hlt:j<s.size:=by omega
  refine AG (q_ (Ao (w_ (m_ (h:=m_ (h:=?_))))))
  refine A4 rfl (J3 (n:=j) Tryz.underlying9 rfl rfl rfl hlt ?_)
  refine AQ (h:=m_ (h:=?_))
  refine Ax false rfl rfl (fun hb6=>?_) (fun hb6=>?_)
  ·have hc6:=bp hb6
   refine A3 (h:=A3 (h:=A3 (h:=A3 (h:=Af (h:=e_ (Bf (h:=w_ (a_ (h:=e_ (A6 (AR (A7 (A7 (AR (A7 (?_))))))))))))))))
   refine AB ?_
   exact vb (by rw[Jc,if_neg (by omega),if_neg hc3,if_neg hc4,Pb hlt (by unfold J1;simp[hc6])])
  have hc6:=bp hb6
  refine m_ (h:=m_ (h:=?_))
  refine B6 (J3 (n:=j) Tryz.underlying9 rfl rfl rfl hlt ?_)
  refine AQ (h:=Am (h:=e_ (?_)))
  refine A8 rfl (fun hb7=>?_) (fun hb7=>?_)
  ·have hc7:=bp hb7
   refine w_ (a_ (h:=e_ (A6 (AR (A7 (A7 (AR (A7 (?_)))))))))
   refine AB ?_
   exact vb (by rw[Jc,if_neg (by omega),if_neg hc3,if_neg hc4,Pb hlt (by unfold J1;simp[hc7])])
  have hc7:=bp hb7
  refine BB (Ay (t_ (AP (m_ (h:=B8 (h:=a_ (h:=AO (?_))))))))
  refine AD ?_
  refine⟨_,_,?_,⟨j+1,by omega,rfl,Sq hlt ha (Xj hc6 hc7),rfl⟩,(wk 0 0)⟩
  omega
 have hc5:=bp hb5
 obtain rfl:j=s.size:=by omega
 refine BO (Aq (Aq (BQ (t_ (w_ (a_ (h:=e_ (A6 (?_)))))))))
 refine AB ?_
 exact vb (by rw[Jc,if_neg (by omega),if_neg hc3,if_neg hc4,So (fun i hi=>ha i hi hi)])
end
theorem Xk(f:AZ)(a:A9):J2 f a=decide (12≤(Aa f a).entries.length):=by
 unfold J2 Aa
 cases Bk f a<;>simp[Nod.zero]
theorem Xl(f:AZ)(a:A9):Ja f a=decide ((Aa f a).entries.length=0):=by
 unfold Ja Aa
 cases Bk f a<;>simp[Nod.zero]
theorem Xm{f:AZ}{a:A9}{k:Nat}{d:Dvc}{n:Nod}(hk:a.1=(k:Int))(hd:f[k]?=some d)(hn:Bk f a=some n):GN f a=Bb a.2 d.nodes:=by
 unfold GN
 rw[hn,hk,K9,hd]
section
theorem Xn(s:AE)(hs:s.size≤100000):AFn Tryz.prog 125 [.v (.string s)] (fun r=>r= .v (.bool (KA s))):=by
 refine enter Tryz.func125 rfl rfl rfl rfl rfl 0 rfl ?_
 refine w_ (a_ (h:=e_ (q_ (w_ (a_ (h:=e_ (Ao (?_))))))))
 refine Ba (fun m t=>∃j:Nat,j≤s.size∧m=s.size - j∧(∀i (hi:i<s.size),i<j→(!((s[i].toNat:Int)==0))=true)∧t=⟨look [(0, .v (.string s)),(3, .v (.int .i64 (j:Int)))],⟨[],[]⟩⟩) (s.size) ((wk 0 0)) (⟨0,by omega,rfl,fun i _ hi=>by omega,rfl⟩) ?_
 rintro m t ⟨j,hj,rfl,ha,rfl⟩
 refine q_ (w_ (m_ (h:=m_ (h:=n_ (h:=BJ (h:=e_ (?_)))))))
 refine A8 rfl (fun hb1=>?_) (fun hb1=>?_)
 ·have hc1:=bp hb1
  have hlt:j<s.size:=by omega
  refine AG (q_ (Ao (w_ (m_ (h:=m_ (h:=?_))))))
  refine A4 rfl (J3 (n:=j) Tryz.underlying9 rfl rfl rfl hlt ?_)
  refine AQ (h:=e_ (?_))
  refine A8 rfl (fun hb2=>?_) (fun hb2=>?_)
  ·have hc2:=bp hb2
   refine w_ (a_ (h:=e_ (A6 (AR (A7 (A7 (AR (A7 (?_)))))))))
   refine AB ?_
   exact vb (by unfold KA;rw[Pb hlt (by simp[hc2])];simp)
  have hc2:=bp hb2
  refine BB (Ay (t_ (AP (m_ (h:=B8 (h:=a_ (h:=AO (?_))))))))
  refine AD ?_
  refine⟨_,_,?_,⟨j+1,by omega,rfl,Sq (p:=fun c=> !((c.toNat:Int)==0)) hlt ha (by simpa using hc2),rfl⟩,(wk 0 0)⟩
  omega
 have hc1:=bp hb1
 obtain rfl:j=s.size:=by omega
 have hal:=So (p:=fun c=> !((c.toNat:Int)==0)) (fun i hi=>ha i hi hi)
 refine BO (Aq (Aq (BQ (t_ (w_ (m_ (h:=n_ (h:=Fu (h:=m_ (h:=?_))))))))))
 refine Ax true rfl rfl (fun hb3=>?_) (fun hb3=>?_)
 ·have hc3:=bp hb3
  refine m_ (h:=n_ (h:=M7 (h:=Af (h:=a_ (h:=e_ (A6 (?_)))))))
  refine AB ?_
  exact vb (by unfold KA;rw[hal,Bool.eq_iff_iff];simp;omega)
 have hc3:=bp hb3
 refine A3 (h:=A3 (h:=A3 (h:=Am (h:=a_ (h:=e_ (A6 (?_)))))))
 refine AB ?_
 exact vb (by unfold KA;rw[hal,Bool.eq_iff_iff];simp;omega)
theorem Kv(f:AZ)(a:A9)(name:AE)(hf:FlsB f)(hs:name.size≤100000):AFn Tryz.prog 71 [.agg (As f), .agg (AA a), .v (.string name)] (fun r=>r= .v (.int .i64 (CF f a name))):=by
 refine enter Tryz.func71 rfl rfl rfl rfl rfl 0 rfl ?_
 refine w_ (b_ (h:=b_ (h:=a_ (h:=e_ (w_ (l_ (h:=l_ (h:=?_))))))))
 refine A4 rfl (AK (Dk f a hf) ?_)
 rintro r rfl
 refine m_ (h:=x_ (h:=x_ (h:=AW (h:=s_ (h:=a_ (h:=e_ (q_ (w_ (m_ (h:=BA (h:=e_ (?_))))))))))))
 refine A8 rfl (fun hb1=>?_) (fun hb1=>?_)
 ·have hc1:=bp hb1
  have e:=Ss hc1
  refine w_ (a_ (h:=e_ (A6 (A7 (?_)))))
  refine AB ?_
  exact vi (by simp[CF,e])
 have hc1:=bp hb1
 have e:=Sr hc1
 refine AG (q_ (w_ (f_ (h:=l_ (h:=BF (h:=e_ (?_)))))))
 refine A8 rfl (fun hb2=>?_) (fun hb2=>?_)
 ·have hc2:=bp hb2
  refine w_ (a_ (h:=e_ (A6 (A7 (?_)))))
  refine AB ?_
  exact vi (by simp[CF,e,hc2])
 have hc2:=bp hb2
 refine AG (q_ (w_ (m_ (h:=?_))))
 refine A4 rfl (AK (Pe name hs) ?_)
 rintro r rfl
 refine BA (h:=e_ (?_))
 refine A8 rfl (fun hb3=>?_) (fun hb3=>?_)
 ·have hc3:=bp hb3
  refine w_ (a_ (h:=e_ (A6 (A7 (?_)))))
  refine AB ?_
  exact vi (by simp only[CF,e];rw[if_pos (by omega),hc3];rfl)
 have hc3:=bp hb3
 refine AG (w_ (a_ (h:=e_ (A6 (?_)))))
 refine AB ?_
 exact vi (by simp only[CF,e];rw[if_pos (by omega),hc3];rfl)
theorem Pg(f:AZ)(a:A9)(hf:FlsB f):AFn Tryz.prog 75 [.agg (As f), .agg (AA a)] (fun r=>r= .v (.bool (J2 f a))):=by
 refine enter Tryz.func75 rfl rfl rfl rfl rfl 0 rfl ?_
 refine w_ (b_ (h:=b_ (h:=a_ (h:=e_ (w_ (l_ (h:=l_ (h:=?_))))))))
 refine A4 rfl (AK (Dk f a hf) ?_)
 rintro r rfl
 refine m_ (h:=x_ (h:=x_ (h:=AW (h:=s_ (h:=a_ (h:=e_ (w_ (f_ (h:=l_ (h:=n_ (h:=Fu (h:=a_ (h:=e_ (A6 (?_)))))))))))))))
 refine AB ?_
 exact vb (by rw[Xk,Bool.eq_iff_iff];simp;omega)
theorem Su(f:AZ)(a:A9)(hf:FlsB f):AFn Tryz.prog 74 [.agg (As f), .agg (AA a)] (fun r=>r= .v (.bool (Ja f a))):=by
 refine enter Tryz.func74 rfl rfl rfl rfl rfl 0 rfl ?_
 refine w_ (b_ (h:=b_ (h:=a_ (h:=e_ (w_ (l_ (h:=l_ (h:=?_))))))))
 refine A4 rfl (AK (Dk f a hf) ?_)
 rintro r rfl
 refine m_ (h:=x_ (h:=x_ (h:=AW (h:=s_ (h:=a_ (h:=e_ (w_ (f_ (h:=l_ (h:=n_ (h:=AQ (h:=a_ (h:=e_ (A6 (?_)))))))))))))))
 refine AB ?_
 exact vb (by rw[Xl,Bool.eq_iff_iff];simp)
theorem Sv(n:Nod)(hs:n.target.size≤100000):AFn Tryz.prog 86 [.agg (Ah n)] (fun r=>r= .v (.bool (En n))):=by
 have ee:n.target.toList.isEmpty=decide (n.target=⟨#[]⟩):=by
  rw[←Nu n.target ⟨#[]⟩,show(⟨#[]⟩:ByteArray).toList=[] by rw[ByteArray.toList_eq]]
  cases n.target.toList<;>rfl
 refine enter Tryz.func86 rfl rfl rfl rfl rfl 0 rfl ?_
 refine w_ (b_ (h:=a_ (h:=e_ (q_ (?_)))))
 refine JX (⟨look [(1, .bp 0 0),(40, .v (.bool (decide (n.kind<1∨3<n.kind∨n.mode<0∨511<n.mode∨n.uid<0∨4294967295<n.uid∨n.gid<0∨4294967295<n.gid))))],⟨[Ah n],[]⟩⟩) ?_ ?_
 ·skip
  refine AP (f_ (h:=l_ (h:=BJ (h:=m_ (h:=?_)))))
  refine Ax false rfl rfl (fun hb1=>?_) (fun hb1=>?_)
  ·have hc1:=bp hb1
   refine A3 (h:=A3 (h:=A3 (h:=Af (h:=m_ (h:=A3 (h:=A3 (h:=A3 (h:=Af (h:=m_ (h:=A3 (h:=A3 (h:=A3 (h:=Af (h:=m_ (h:=A3 (h:=A3 (h:=A3 (h:=Af (h:=m_ (h:=A3 (h:=A3 (h:=A3 (h:=Af (h:=?_))))))))))))))))))))))))
   refine m_ (h:=A3 (h:=A3 (h:=A3 (h:=Af (h:=m_ (h:=A3 (h:=A3 (h:=A3 (h:=Af (h:=AO (?_)))))))))))
   refine AD ?_
   first|(exfalso;first|contradiction|omega)|exact Az 1 0 rfl rfl rfl rfl (by repeat (first|exact Sub.nil|refine Sub.cons _ _ _ rfl rfl ?_|refine Sub.any _ _ ?_|refine Sub.sl _ _ _ _ _ rfl ?_|refine Sub.slnil _ _ _ rfl ?_|(apply Sub.of;(focus exact rfl);(focus exact LeA.of_eq (vb (by rw[Bool.eq_iff_iff];simp;try omega)));(focus exact rfl))))
  have hc1:=bp hb1
  refine f_ (h:=l_ (h:=CZ (h:=Am (h:=m_ (h:=?_)))))
  refine Ax false rfl rfl (fun hb2=>?_) (fun hb2=>?_)
  ·have hc2:=bp hb2
   refine A3 (h:=A3 (h:=A3 (h:=Af (h:=m_ (h:=A3 (h:=A3 (h:=A3 (h:=Af (h:=m_ (h:=A3 (h:=A3 (h:=A3 (h:=Af (h:=m_ (h:=A3 (h:=A3 (h:=A3 (h:=Af (h:=m_ (h:=A3 (h:=A3 (h:=A3 (h:=Af (h:=?_))))))))))))))))))))))))
   refine m_ (h:=A3 (h:=A3 (h:=A3 (h:=Af (h:=AO (?_))))))
   refine AD ?_
   first|(exfalso;first|contradiction|omega)|exact Az 1 0 rfl rfl rfl rfl (by repeat (first|exact Sub.nil|refine Sub.cons _ _ _ rfl rfl ?_|refine Sub.any _ _ ?_|refine Sub.sl _ _ _ _ _ rfl ?_|refine Sub.slnil _ _ _ rfl ?_|(apply Sub.of;(focus exact rfl);(focus exact LeA.of_eq (vb (by rw[Bool.eq_iff_iff];simp;try omega)));(focus exact rfl))))
  have hc2:=bp hb2
  refine f_ (h:=l_ (h:=BJ (h:=Am (h:=m_ (h:=?_)))))
  refine Ax false rfl rfl (fun hb3=>?_) (fun hb3=>?_)
  ·have hc3:=bp hb3
   refine A3 (h:=A3 (h:=A3 (h:=Af (h:=m_ (h:=A3 (h:=A3 (h:=A3 (h:=Af (h:=m_ (h:=A3 (h:=A3 (h:=A3 (h:=Af (h:=m_ (h:=A3 (h:=A3 (h:=A3 (h:=Af (h:=m_ (h:=A3 (h:=A3 (h:=A3 (h:=Af (h:=?_))))))))))))))))))))))))
   refine AO (?_)
   refine AD ?_
   first|(exfalso;first|contradiction|omega)|exact Az 1 0 rfl rfl rfl rfl (by repeat (first|exact Sub.nil|refine Sub.cons _ _ _ rfl rfl ?_|refine Sub.any _ _ ?_|refine Sub.sl _ _ _ _ _ rfl ?_|refine Sub.slnil _ _ _ rfl ?_|(apply Sub.of;(focus exact rfl);(focus exact LeA.of_eq (vb (by rw[Bool.eq_iff_iff];simp;try omega)));(focus exact rfl))))
  have hc3:=bp hb3
  refine f_ (h:=l_ (h:=CZ (h:=Am (h:=m_ (h:=?_)))))
  refine Ax false rfl rfl (fun hb4=>?_) (fun hb4=>?_)
  ·have hc4:=bp hb4
   refine A3 (h:=A3 (h:=A3 (h:=Af (h:=m_ (h:=A3 (h:=A3 (h:=A3 (h:=Af (h:=m_ (h:=A3 (h:=A3 (h:=A3 (h:=Af (h:=m_ (h:=A3 (h:=A3 (h:=A3 (h:=Af (h:=AO (?_))))))))))))))))))))
   refine AD ?_
   first|(exfalso;first|contradiction|omega)|exact Az 1 0 rfl rfl rfl rfl (by repeat (first|exact Sub.nil|refine Sub.cons _ _ _ rfl rfl ?_|refine Sub.any _ _ ?_|refine Sub.sl _ _ _ _ _ rfl ?_|refine Sub.slnil _ _ _ rfl ?_|(apply Sub.of;(focus exact rfl);(focus exact LeA.of_eq (vb (by rw[Bool.eq_iff_iff];simp;try omega)));(focus exact rfl))))
  have hc4:=bp hb4
  refine f_ (h:=l_ (h:=BJ (h:=Am (h:=m_ (h:=?_)))))
  refine Ax false rfl rfl (fun hb5=>?_) (fun hb5=>?_)
  ·have hc5:=bp hb5
   refine A3 (h:=A3 (h:=A3 (h:=Af (h:=m_ (h:=A3 (h:=A3 (h:=A3 (h:=Af (h:=m_ (h:=A3 (h:=A3 (h:=A3 (h:=Af (h:=AO (?_)))))))))))))))
   refine AD ?_
   first|(exfalso;first|contradiction|omega)|exact Az 1 0 rfl rfl rfl rfl (by repeat (first|exact Sub.nil|refine Sub.cons _ _ _ rfl rfl ?_|refine Sub.any _ _ ?_|refine Sub.sl _ _ _ _ _ rfl ?_|refine Sub.slnil _ _ _ rfl ?_|(apply Sub.of;(focus exact rfl);(focus exact LeA.of_eq (vb (by rw[Bool.eq_iff_iff];simp;try omega)));(focus exact rfl))))
  have hc5:=bp hb5
  refine f_ (h:=l_ (h:=CZ (h:=Am (h:=m_ (h:=?_)))))
  refine Ax false rfl rfl (fun hb6=>?_) (fun hb6=>?_)
  ·have hc6:=bp hb6
   refine A3 (h:=A3 (h:=A3 (h:=Af (h:=m_ (h:=A3 (h:=A3 (h:=A3 (h:=Af (h:=AO (?_))))))))))
   refine AD ?_
   first|(exfalso;first|contradiction|omega)|exact Az 1 0 rfl rfl rfl rfl (by repeat (first|exact Sub.nil|refine Sub.cons _ _ _ rfl rfl ?_|refine Sub.any _ _ ?_|refine Sub.sl _ _ _ _ _ rfl ?_|refine Sub.slnil _ _ _ rfl ?_|(apply Sub.of;(focus exact rfl);(focus exact LeA.of_eq (vb (by rw[Bool.eq_iff_iff];simp;try omega)));(focus exact rfl))))
  have hc6:=bp hb6
  refine f_ (h:=l_ (h:=BJ (h:=Am (h:=m_ (h:=?_)))))
  refine Ax false rfl rfl (fun hb7=>?_) (fun hb7=>?_)
  ·have hc7:=bp hb7
   refine A3 (h:=A3 (h:=A3 (h:=Af (h:=AO (?_)))))
   refine AD ?_
   first|(exfalso;first|contradiction|omega)|exact Az 1 0 rfl rfl rfl rfl (by repeat (first|exact Sub.nil|refine Sub.cons _ _ _ rfl rfl ?_|refine Sub.any _ _ ?_|refine Sub.sl _ _ _ _ _ rfl ?_|refine Sub.slnil _ _ _ rfl ?_|(apply Sub.of;(focus exact rfl);(focus exact LeA.of_eq (vb (by rw[Bool.eq_iff_iff];simp;try omega)));(focus exact rfl))))
  have hc7:=bp hb7
  refine f_ (h:=l_ (h:=CZ (h:=Am (h:=AO (?_)))))
  refine AD ?_
  first|(exfalso;first|contradiction|omega)|exact Az 1 0 rfl rfl rfl rfl (by repeat (first|exact Sub.nil|refine Sub.cons _ _ _ rfl rfl ?_|refine Sub.any _ _ ?_|refine Sub.sl _ _ _ _ _ rfl ?_|refine Sub.slnil _ _ _ rfl ?_|(apply Sub.of;(focus exact rfl);(focus exact LeA.of_eq (vb (by rw[Bool.eq_iff_iff];simp;try omega)));(focus exact rfl))))
 skip
 refine A8 rfl (fun hb8=>?_) (fun hb8=>?_)
 ·have hc8:=bp hb8
  refine w_ (a_ (h:=e_ (A6 (A7 (?_)))))
  refine AB ?_
  exact vb (by rw[En,if_pos hc8])
 have hc8:=bp hb8
 refine AG (q_ (w_ (f_ (h:=l_ (h:=AQ (h:=e_ (?_)))))))
 refine A8 rfl (fun hb9=>?_) (fun hb9=>?_)
 ·have hc9:=bp hb9
  refine w_ (f_ (h:=l_ (h:=?_)))
  refine A4 rfl (AK (Xn n.target hs) ?_)
  rintro r rfl
  refine a_ (h:=e_ (A6 (A7 (?_))))
  refine AB ?_
  exact vb (by rw[En,if_neg hc8,if_pos hc9])
 have hc9:=bp hb9
 refine AG (w_ (f_ (h:=l_ (h:=AQ (h:=a_ (h:=e_ (A6 (?_))))))))
 refine AB ?_
 exact vb (by rw[En,if_neg hc8,if_neg hc9,ee])
theorem Xo(f:AZ)(a:A9)(hf:FlsB f):AFn Tryz.prog 122 [.agg (As f), .agg (AA a)] (fun r=>r= .v (.int .i64 (GN f a:Int))):=by
 refine enter Tryz.func122 rfl rfl rfl rfl rfl 0 rfl ?_
 refine w_ (b_ (h:=b_ (h:=a_ (h:=e_ (q_ (w_ (l_ (h:=l_ (h:=?_)))))))))
 refine A4 rfl (AK (Jb f a hf) ?_)
 rintro r rfl
 refine BJ (h:=e_ (?_))
 refine A8 rfl (fun hb1=>?_) (fun hb1=>?_)
 ·have hc1:=bp hb1
  have e:Bk f a=none:=by
   rcases J0 f a with h|⟨k,i,d,n, -, -, -, -,h, -⟩
   ·exact h.2
   exfalso;omega
  refine w_ (a_ (h:=e_ (A6 (A7 (?_)))))
  refine AB ?_
  exact vi (by simp[GN,e])
 have hc1:=bp hb1
 obtain⟨k,i,d,n,g1,g2,g3,g4,g5,g6⟩:=(J0 f a).resolve_left (fun h=>by omega)
 have hr1:(f.map Bn)[k]?=some (Bn d):=by rw[List.getElem?_map,g2];rfl
 have hdn:=hf.nodes d (Au g2)
 refine AG (w_ (a_ (h:=e_ (w_ (f_ (h:=l_ (h:=f_ (h:=l_ (h:=?_)))))))))
 refine A4 rfl (CS (n:=k) rfl rfl g1 hr1 ?_)
 refine f_ (h:=l_ (h:=a_ (h:=e_ (q_ (w_ (a_ (h:=e_ (Ao (?_)))))))))
 refine Ba (fun m s=>∃j c:Nat,j≤d.nodes.length∧m=d.nodes.length - j∧c=Bb a.2 (d.nodes.take j)∧c≤1000 * j∧s=⟨look [(3, .bp 1 0),(5, .v (.int .i64 (c:Int))),(6, .sl 8 (d.nodes.map Ah) none),(7, .v (.int .i64 (j:Int)))],⟨[As f,AA a],[]⟩⟩) (d.nodes.length) ((wk 2 0)) (⟨0,0,by omega,rfl,rfl,by omega,rfl⟩) ?_
 rintro m s ⟨j,c,hj,rfl,hcn,hcb,rfl⟩
 refine q_ (w_ (m_ (h:=m_ (h:=n_ (h:=BJ (h:=e_ (?_)))))))
 refine A8 rfl (fun hb2=>?_) (fun hb2=>?_)
 ·have hc2:=bp hb2
  obtain⟨hlt,x,hx,hrow, -⟩:=CW Ah hc2
  have hen:=hf.ents d (Au g2) x (Au hx)
  refine AG (q_ (Ao (w_ (a_ (h:=e_ (Ao (?_)))))))
  refine Ba (fun m s=>∃i c2:Nat,i≤x.entries.length∧m=x.entries.length - i∧c2=c+Ci a.2 (x.entries.take i)∧c2≤c+i∧s=⟨look [(3, .bp 1 0),(5, .v (.int .i64 (c2:Int))),(6, .sl 8 (d.nodes.map Ah) none),(7, .v (.int .i64 (j:Int))),(8, .v (.int .i64 (i:Int)))],⟨[As f,AA a],[]⟩⟩) (x.entries.length) ((wk 2 0)) (⟨0,c,by omega,rfl,rfl,by omega,rfl⟩) ?_
  rintro m s ⟨i,c2,hi,rfl,hc2n,hc2b,rfl⟩
  refine q_ (w_ (m_ (h:=m_ (h:=m_ (h:=i_ (h:=f_ (h:=l_ (h:=n_ (h:=BJ (h:=e_ (?_)))))))))))
  refine A8 rfl (fun hb3=>?_) (fun hb3=>?_)
  ·have hc3:=bp hb3
   obtain⟨hlt3,y,hy,hrow3, -⟩:=CW CU hc3
   refine AG (q_ (Ao (q_ (DT 12 (h:=AN 0 (h:=AN 1 (h:=Di 2 (h:=AF 3 (h:=AJ 4 (h:=AN 5 (h:=Di 6 (h:=AF 7 (h:=AJ 8 (h:=AF 9 (h:=AJ 10 (h:=Hz 11 (h:=z_ (h:=t_ (?_)))))))))))))))))))
   refine A8 rfl (fun hb4=>?_) (fun hb4=>?_)
   ·have hc4:=bp hb4
    refine AP (m_ (h:=B8 (h:=a_ (h:=AO (Ay (t_ (AP (m_ (h:=B8 (h:=a_ (h:=AO (?_))))))))))))
    refine AD ?_
    (refine⟨_,_,?_,⟨i+1,c2+1,by omega,rfl,?_,by omega,rfl⟩,(wk 2 0)⟩<;>first|omega|(rw[Pc hy];simp[hc4];omega))
   have hc4:=bp hb4
   refine BB (Ay (t_ (AP (m_ (h:=B8 (h:=a_ (h:=AO (?_))))))))
   refine AD ?_
   first|(refine⟨_,_,?_,⟨i+1,c2+1,by omega,rfl,?_,by omega,rfl⟩,(wk 2 0)⟩<;>first|omega|(rw[Pc hy];simp[hc4];omega))|(refine⟨_,_,?_,⟨i+1,c2,by omega,rfl,?_,by omega,rfl⟩,(wk 2 0)⟩<;>first|omega|(rw[Pc hy];simp[hc4];omega))
  have hc3:=bp hb3
  have e3:=Ck CU hi hc3
  subst e3
  refine BO (Aq (Aq (BQ (Ay (t_ (AP (m_ (h:=B8 (h:=a_ (h:=AO (?_)))))))))))
  refine AD ?_
  refine⟨_,_,?_,⟨j+1,c2,by omega,rfl,?_,?_,rfl⟩,(wk 2 0)⟩
  ·omega
  ·rw[hc2n,Xi hx,List.take_length];omega
  have:=Xh a.2 (x.entries.take x.entries.length);simp at this;omega
 have hc2:=bp hb2
 have e2:=Ck Ah hj hc2
 subst e2
 refine BO (Aq (Aq (BQ (t_ (w_ (m_ (h:=a_ (h:=e_ (A6 (?_))))))))))
 refine AB ?_
 exact vi (by rw[Xm g1 g2 g6,hcn,List.take_length])
end
end Go.Proofs.YtbglbmnhgbgelaaGreatDoor
