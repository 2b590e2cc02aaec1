/-
  Part 4 of the proof of FilterLoadsP: what the statement's proof uses of the texts in wip/tpl.
-/
import Derived.WalkKit
import Derived.Test.YtbgnigjfkbmceaaGreatDoorQd3
open Go.Proofs.Tryz (prog)
set_option maxRecDepth 10000
set_option maxHeartbeats 4000000
set_option linter.unusedVariables false
set_option linter.unusedSimpArgs false
namespace Go.Proofs.YtbgnigjfkbmceaaGreatDoor
open Go.RowKit
section
variable {P:Program}{N:Dim}{Q:Exit→AS→Prop}{s:AS}
def AC(P:Program)(N:Dim)(y:Code)(Q:Exit→AS→Prop)(s:AS):Prop:=Bh P N y Q s
theorem q_{x y:Code}(h:Bh P N x (Ep (AC P N y Q) Q) s):Bh P N (.seq x y) Q s:=by
 intro E a w hr;refine wp_seq (wp_mono (h E a w hr) ?_);rintro e a' w' ⟨s',hq,hr'⟩
 cases e with
 |normal=>exact hq E a' w' hr'
 |exit id=>exact⟨s',hq,hr'⟩
 |goto l=>exact⟨s',hq,hr'⟩
 |ret=>exact⟨s',hq,hr'⟩
 |panic c=>exact⟨s',hq,hr'⟩
 |outgrown=>exact⟨s',hq,hr'⟩
theorem w_{id:Nat}{l:List Oper}{y:Code}(h:AL P N l.toArray (Ep (AC P N y Q) Q) l s):Bh P N (.seq (.region id l.toArray false) y) Q s:=q_ (AW h)
theorem t_{y:Code}(h:Bh P N y Q s):Ep (AC P N y Q) Q .normal s:=h
theorem e_{ops:Array Oper}{y:Code}(h:Bh P N y Q s):AL P N ops (Ep (AC P N y Q) Q) [] s:=AQ h
theorem AE{y:Code}(h:Bh P N y Q s):Bh P N .skip (Ep (AC P N y Q) Q) s:=Aw h
theorem B2{c:Operand}{x y:Code}{t:Bool}(hc:Bz s.sl c=some (.v (.bool t)):=by rfl)(ht:t=true:=by first|rfl|assumption|simp[*])(h:Bh P N x Q s):Bh P N (.cond c x y) Q s:=VH hc ht h
theorem Be{c:Operand}{x y:Code}{t:Bool}(hc:Bz s.sl c=some (.v (.bool t)):=by rfl)(ht:t=false:=by first|rfl|assumption|simp[*])(h:Bh P N y Q s):Bh P N (.cond c x y) Q s:=VJ hc ht h
end
section
variable {P:Program}{N:Dim}{Q:Exit→AS→Prop}{ops:Array Oper}{rest:List Oper}{l:List (Nat×AV)}{hh:AH}{op:Op}{ty:TypeId}{pos:String}{af:Array Edge}
theorem A3{d j:Nat}{want t:Bool}(hd:Nat.blt d N.n=true:=by rfl)(hy:yv ops (look l) j=some (some t):=by rfl)(ht:(t==want)=false:=by first|rfl|exact Qk ‹_›|exact Ql ‹_›|simp[*])(h:AL P N ops Q rest ⟨look ((d, .v undef)::l),hh⟩):AL P N ops Q (⟨some d,op,ty,pos,af,some (j,want)⟩::rest) ⟨look l,hh⟩:=VK hd hy ht h
theorem AU{d j:Nat}{want:Bool}(hd:Nat.blt d N.n=true:=by rfl)(hy:yv ops (look l) j=some none:=by rfl)(h:AL P N ops Q rest ⟨look ((d, .v undef)::l),hh⟩):AL P N ops Q (⟨some d,op,ty,pos,af,some (j,want)⟩::rest) ⟨look l,hh⟩:=VL hd hy h
end
def KB:List (Nat×List AV)→AH→Prop
 |[],_=>True
 |(i,r)::l,h=>h.bx[i]?=some r∧KB l h
def OH:List (Nat×List AV)→Nat→Option (List AV)
 |[],_=>none
 |(i,r)::l,j=>match Nat.beq i j with
   |true=>some r
   |false=>OH l j
theorem kb:∀{l:List (Nat×List AV)} {h:AH} {i:Nat} {row:List AV},KB l h→OH l i=some row→h.bx[i]?=some row
 |[],_,_,_,_,e=>by cases e
 |(j,r)::l,h,i,row,k,e=>by
   unfold OH at e;split at e
   ·rename_i hb;have:=Nat.eq_of_beq_eq_true hb;subst this;injection e with e;subst e;exact k.1
   exact kb k.2 e
theorem Kd(h:AH):KB [] h:=trivial
theorem Ke{l:List (Nat×List AV)}{h:AH}{i:Nat}{r:List AV}(h1:h.bx[i]?=some r)(h2:KB l h):KB ((i,r)::l) h:=⟨h1,h2⟩
def Do(_i:Nat)(B A:Prop):Prop:=B→A
section
variable {P:Program}{N:Dim}{l:List Oper}{Q:Exit→AS→Prop}{S:AH→Prop}{tl fuel:Nat}{listed:Array Bool}{m:List (Nat×AV)}{hh:AH}{op:Op}{ty:TypeId}{pos:String}{af:Array Edge}{gd:Option (Nat×Bool)}
theorem CJ{i d:Nat}{x:AV}(hi:l[i]?=some ⟨some d,op,ty,pos,af,gd⟩)(hst:AStep P ⟨some d,op,ty,pos,af,gd⟩ (Bz (look m)) hh (fun x' h'=>x'=x∧h'=hh))(hd:Nat.blt d N.n=true:=by rfl)(htl:(Fq l.toArray tl listed&& !Nat.ble tl i&&Region.free .any l.toArray listed i&&(Region.ready .any l.toArray listed).contains i)=true:=by kernel_rfl)
    (hw:C9 l.toArray (look m) ⟨some d,op,ty,pos,af,gd⟩=some true:=by first|rfl|exact AM rfl rfl (B9 ‹_›)|exact AM rfl rfl (BA ‹_›)|exact AM rfl rfl (by simp[*])):
    Do i (AAny P N l.toArray Q (fun h'=>h'=hh) tl fuel (listed.setIfInBounds i true) ⟨look ((d,x)::m),hh⟩) (AAny P N l.toArray Q (fun h'=>h'=hh) tl (fuel+1) listed ⟨look m,hh⟩):=fun H=>QL hi hd htl hw hst H
theorem CK{K:List (Nat×List AV)}{i d:Nat}{x:AV}(hi:l[i]?=some ⟨some d,op,ty,pos,af,gd⟩)(hst:∀h,KB K h→AStep P ⟨some d,op,ty,pos,af,gd⟩ (Bz (look m)) h (fun x' h'=>x'=x∧h'=h))(hd:Nat.blt d N.n=true:=by rfl)(htl:(Fq l.toArray tl listed&& !Nat.ble tl i&&Region.free .any l.toArray listed i&&(Region.ready .any l.toArray listed).contains i)=true:=by kernel_rfl)
    (hw:C9 l.toArray (look m) ⟨some d,op,ty,pos,af,gd⟩=some true:=by first|rfl|exact AM rfl rfl (B9 ‹_›)|exact AM rfl rfl (BA ‹_›)|exact AM rfl rfl (by simp[*])) (hS:KB K hh:=by repeat (first|exact Kd _|refine Ke rfl ?_)):
    Do i (AAny P N l.toArray Q (KB K) tl fuel (listed.setIfInBounds i true) ⟨look ((d,x)::m),hh⟩) (AAny P N l.toArray Q (KB K) tl (fuel+1) listed ⟨look m,hh⟩):=fun H=>BG hi hd htl hw hst hS H
theorem BK{K:List (Nat×List AV)}(i:Nat){d:Nat}{x:AV}(hi:l[i]?=some ⟨some d,op,ty,pos,af,gd⟩)(hst:∀h,KB K h→AStep P ⟨some d,op,ty,pos,af,gd⟩ (Bz (look m)) h (fun x' h'=>x'=x∧h'=h))(H:AAny P N l.toArray Q (KB K) tl fuel (listed.setIfInBounds i true) ⟨look ((d,x)::m),hh⟩)(hd:Nat.blt d N.n=true:=by rfl)(htl:(Fq l.toArray tl listed&& !Nat.ble tl i&&Region.free .any l.toArray listed i&&(Region.ready .any l.toArray listed).contains i)=true:=by kernel_rfl)
    (hw:C9 l.toArray (look m) ⟨some d,op,ty,pos,af,gd⟩=some true:=by first|rfl|exact AM rfl rfl (B9 ‹_›)|exact AM rfl rfl (BA ‹_›)|exact AM rfl rfl (by simp[*])) (hS:KB K hh:=by repeat (first|exact Kd _|refine Ke rfl ?_)):AAny P N l.toArray Q (KB K) tl (fuel+1) listed ⟨look m,hh⟩:=BG hi hd htl hw hst hS H
theorem Ba(i:Nat){d:Nat}(hi:l[i]?=some ⟨some d,op,ty,pos,af,gd⟩:=by rfl)(hd:Nat.blt d N.n=true:=by rfl)(htl:(Fq l.toArray tl listed&& !Nat.ble tl i&&Region.free .any l.toArray listed i&&(Region.ready .any l.toArray listed).contains i)=true:=by kernel_rfl)
    (hw:C9 l.toArray (look m) ⟨some d,op,ty,pos,af,gd⟩=some false:=by first|rfl|exact Nk rfl rfl (Qk ‹_›)|exact Nk rfl rfl (Ql ‹_›)|exact Uy rfl rfl|exact Nk rfl rfl (by simp[*]))
    (hS:S hh:=by first|rfl|(repeat (first|exact Kd _|refine Ke rfl ?_))) (h:AAny P N l.toArray Q S tl fuel (listed.setIfInBounds i true) ⟨look ((d, .v undef)::m),hh⟩):AAny P N l.toArray Q S tl (fuel+1) listed ⟨look m,hh⟩:=Ut hi hd htl hw hS h
theorem c_(i:Nat){d:Nat}(hi:l[i]?=some ⟨some d,op,ty,pos,af,gd⟩)(H:AStep P ⟨some d,op,ty,pos,af,gd⟩ (Bz (look m)) hh (fun x h'=>(Nat.ble tl i=true∨S h')∧AAny P N l.toArray Q S tl fuel (listed.setIfInBounds i true) ⟨look ((d,x)::m),h'⟩))(hd:Nat.blt d N.n=true:=by rfl)(hr:Region.ready .any l.toArray listed=[i]:=by kernel_rfl)
    (hw:C9 l.toArray (look m) ⟨some d,op,ty,pos,af,gd⟩=some true:=by first|rfl|exact AM rfl rfl (B9 ‹_›)|exact AM rfl rfl (BA ‹_›)|exact AM rfl rfl (by simp[*])):AAny P N l.toArray Q S tl (fuel+1) listed ⟨look m,hh⟩:=Uu hi hd hr hw H
theorem Bm(i:Nat)(hi:l[i]?=some ⟨none,op,ty,pos,af,gd⟩)(H:AStep P ⟨none,op,ty,pos,af,gd⟩ (Bz (look m)) hh (fun _ h'=>(Nat.ble tl i=true∨S h')∧AAny P N l.toArray Q S tl fuel (listed.setIfInBounds i true) ⟨look m,h'⟩))(hr:Region.ready .any l.toArray listed=[i]:=by kernel_rfl)
    (hw:C9 l.toArray (look m) ⟨none,op,ty,pos,af,gd⟩=some true:=by first|rfl|exact AM rfl rfl (B9 ‹_›)|exact AM rfl rfl (BA ‹_›)|exact AM rfl rfl (by simp[*])):AAny P N l.toArray Q S tl (fuel+1) listed ⟨look m,hh⟩:=Uv hi hr hw H
theorem Gs(i j:Nat){di dj:Nat}{op':Op}{ty':TypeId}{pos':String}{af':Array Edge}{gd':Option (Nat×Bool)}(hi:l[i]?=some ⟨some di,op,ty,pos,af,gd⟩)(hj:l[j]?=some ⟨some dj,op',ty',pos',af',gd'⟩)
    (H1:AStep P ⟨some di,op,ty,pos,af,gd⟩ (Bz (look m)) hh (fun x h'=>(Nat.ble tl i=true∨S h')∧AAny P N l.toArray Q S tl fuel (listed.setIfInBounds i true) ⟨look ((di,x)::m),h'⟩))
    (H2:AStep P ⟨some dj,op',ty',pos',af',gd'⟩ (Bz (look m)) hh (fun x h'=>(Nat.ble tl j=true∨S h')∧AAny P N l.toArray Q S tl fuel (listed.setIfInBounds j true) ⟨look ((dj,x)::m),h'⟩))
    (hdi:Nat.blt di N.n=true:=by rfl) (hdj:Nat.blt dj N.n=true:=by rfl) (hr:Region.ready .any l.toArray listed=[i,j]:=by kernel_rfl)
    (hwi:C9 l.toArray (look m) ⟨some di,op,ty,pos,af,gd⟩=some true:=by first|rfl|exact AM rfl rfl (B9 ‹_›)|exact AM rfl rfl (BA ‹_›)|exact AM rfl rfl (by simp[*]))
    (hwj:C9 l.toArray (look m) ⟨some dj,op',ty',pos',af',gd'⟩=some true:=by first|rfl|exact AM rfl rfl (B9 ‹_›)|exact AM rfl rfl (BA ‹_›)|exact AM rfl rfl (by simp[*])):AAny P N l.toArray Q S tl (fuel+1) listed ⟨look m,hh⟩:=Vc hr hi hdi hwi hj hdj hwj H1 H2
theorem o_{i:Nat}{A:Prop}{h':AH}(hS:Nat.ble tl i=true∨S h':=by first|exact .inl rfl|exact .inr rfl|exact .inr (by repeat (first|exact Kd _|refine Ke rfl ?_)))(h:A):(Nat.ble tl i=true∨S h')∧A:=⟨hS,h⟩
theorem z_(hr:Region.ready .any l.toArray listed=[]:=by kernel_rfl)(h:Q .normal ⟨look m,hh⟩):AAny P N l.toArray Q S tl fuel listed ⟨look m,hh⟩:=Ux hr h fuel
theorem D7(tl:Nat){id:Nat}(hm:P.follows .mixedOrders=true:=by kernel_rfl)(h:AAny P N l.toArray Q (fun h'=>h'=hh) tl l.length (Array.replicate l.length false) ⟨look m,hh⟩):Bh P N (.region id l.toArray true) Q ⟨look m,hh⟩:=Uw tl hm h
theorem CE(K:List (Nat×List AV))(tl:Nat){id:Nat}(hm:P.follows .mixedOrders=true:=by kernel_rfl)(h:AAny P N l.toArray Q (KB K) tl l.length (Array.replicate l.length false) ⟨look m,hh⟩):Bh P N (.region id l.toArray true) Q ⟨look m,hh⟩:=JQ _ tl hm h
end
section
variable {P:Program}{rs:List ResultVar}{n:Nat}{R:AV→List (List AV)→List C5→Prop}{s:AS}{xs:List AV}{r:AV}
theorem Au(g:Option Nat){tk':List C5}(h1:ResA P s rs xs:=by repeat (first|exact ResA.nil|(apply ResA.tmp;(focus exact rfl))|(apply ResA.cellN;(focus exact inferInstance);(focus exact rfl);(focus exact rfl);(focus exact rfl))|(apply ResA.cell1;(focus exact inferInstance);(focus exact rfl);(focus exact rfl);(focus exact rfl))))(h2:Hr s.h.tk g=some tk':=by rfl)(h3:B6 n 1 (Cr g (Dw xs))=true:=by rfl)(h4:BH n 0 (s.h.bx.take n)=true:=by rfl)(h5:LeA (Cr g (Dw xs)) r)(h6:R r (s.h.bx.take n) tk'):Hs P rs n R .ret s:=O0 g h1 h2 h3 h4 h5 h6
theorem OJ(g:Option Nat){tk':List C5}(h1:ResA P s rs xs:=by repeat (first|exact ResA.nil|(apply ResA.tmp;(focus exact rfl))|(apply ResA.cellN;(focus exact inferInstance);(focus exact rfl);(focus exact rfl);(focus exact rfl))|(apply ResA.cell1;(focus exact inferInstance);(focus exact rfl);(focus exact rfl);(focus exact rfl))))(h2:Hr s.h.tk g=some tk':=by rfl)(h3:B6 n 1 (Cr g (Dw xs))=true:=by rfl)(h4:BH n 0 (s.h.bx.take n)=true:=by rfl)(h5:LeA (Cr g (Dw xs)) r)(h6:R r (s.h.bx.take n) tk'):Hs P rs n R .normal s:=VC g h1 h2 h3 h4 h5 h6
end
theorem m_{A B:Prop}(k:B→A:=by intro b;first|exact A6 rfl (E6 rfl b)|exact Av (E6 rfl b))(h:B):A:=k h
theorem Ap(i:Nat){A B:Prop}(k:Do i B A:=by first|exact CJ rfl (E6 rfl ⟨rfl,rfl⟩)|exact CK rfl (fun _ _=>E6 rfl ⟨rfl,rfl⟩))(h:B):A:=k h
theorem a_{A B:Prop}(k:B→A:=by intro b;first|exact A6 rfl (Gl rfl b)|exact Av (Gl rfl b))(h:B):A:=k h
theorem BN(i:Nat){A B:Prop}(k:Do i B A:=by first|exact CJ rfl (Gl rfl ⟨rfl,rfl⟩)|exact CK rfl (fun _ _=>Gl rfl ⟨rfl,rfl⟩))(h:B):A:=k h
theorem f_{A B:Prop}(k:B→A:=by intro b;first|exact A6 rfl (Dn rfl b)|exact A6 rfl (Fu rfl b)|exact Av (Dn rfl b)|exact Av (Fu rfl b))(h:B):A:=k h
theorem Ay(i:Nat){A B:Prop}(k:Do i B A:=by first|exact CJ rfl (Dn rfl ⟨rfl,rfl⟩)|exact CJ rfl (Fu rfl ⟨rfl,rfl⟩)|exact CK rfl (fun _ _=>Dn rfl ⟨rfl,rfl⟩)|exact CK rfl (fun _ _=>Fu rfl ⟨rfl,rfl⟩))(h:B):A:=k h
theorem l_{A B:Prop}(k:B→A:=by intro b;first|exact A6 rfl (BY rfl rfl rfl b)|exact A6 rfl (EX rfl rfl rfl b)|exact A6 rfl (Fv rfl rfl b)|exact A6 rfl (Gm rfl rfl b)|exact A6 rfl (EN rfl rfl rfl b)|exact A6 rfl (GG rfl rfl b)|exact Av (BY rfl rfl rfl b)|exact Av (EX rfl rfl rfl b)|exact Av (Fv rfl rfl b)|exact Av (Gm rfl rfl b)|exact Av (EN rfl rfl rfl b)|exact Av (GG rfl rfl b))(h:B):A:=k h
theorem AY(i:Nat){A B:Prop}(k:Do i B A:=by first|exact CJ rfl (BY rfl rfl rfl ⟨rfl,rfl⟩)|exact CJ rfl (EX rfl rfl rfl ⟨rfl,rfl⟩)|exact CJ rfl (Fv rfl rfl ⟨rfl,rfl⟩)|exact CJ rfl (Gm rfl rfl ⟨rfl,rfl⟩)|exact CJ rfl (EN rfl rfl rfl ⟨rfl,rfl⟩)|exact CJ rfl (GG rfl rfl ⟨rfl,rfl⟩)|exact CK rfl (fun _ hS=>BY rfl (kb hS rfl) rfl ⟨rfl,rfl⟩)|exact CK rfl (fun _ hS=>EX rfl (kb hS rfl) rfl ⟨rfl,rfl⟩)|exact CK rfl (fun _ _=>Fv rfl rfl ⟨rfl,rfl⟩)|exact CK rfl (fun _ _=>Gm rfl rfl ⟨rfl,rfl⟩)|exact CK rfl (fun _ hS=>EN rfl (kb hS rfl) rfl ⟨rfl,rfl⟩)|exact CK rfl (fun _ _=>GG rfl rfl ⟨rfl,rfl⟩))(h:B):A:=k h
theorem s_{A B:Prop}(k:B→A:=by intro b;exact MC (Bd rfl rfl rfl rfl rfl rfl (by repeat constructor) (by repeat constructor) b))(h:B):A:=k h
theorem b_{A B:Prop}(k:B→A:=by intro b;first|exact A6 rfl (Qn rfl rfl (by repeat constructor) b)|exact A6 rfl (Qm rfl rfl (by repeat constructor) b)|exact Av (Qn rfl rfl (by repeat constructor) b)|exact Av (Qm rfl rfl (by repeat constructor) b))(h:B):A:=k h
theorem Ac{A B:Prop}(k:B→A:=by intro b;first|exact A6 rfl (Dx (by repeat constructor) b)|exact Av (Dx (by repeat constructor) b))(h:B):A:=k h
theorem n_{A B:Prop}(k:B→A:=by intro b;first|exact A6 rfl (M4 rfl b)|exact A6 rfl (M3 (by kernel_rfl) rfl b)|exact A6 rfl (M5 rfl b)|exact Av (M4 rfl b)|exact Av (M3 (by kernel_rfl) rfl b)|exact Av (M5 rfl b))(h:B):A:=k h
theorem J1(i:Nat){A B:Prop}(k:Do i B A:=by first|exact CJ rfl (M4 rfl ⟨rfl,rfl⟩)|exact CJ rfl (M3 (by kernel_rfl) rfl ⟨rfl,rfl⟩)|exact CJ rfl (M5 rfl ⟨rfl,rfl⟩)|exact CK rfl (fun _ _=>M4 rfl ⟨rfl,rfl⟩)|exact CK rfl (fun _ _=>M3 (by kernel_rfl) rfl ⟨rfl,rfl⟩)|exact CK rfl (fun _ _=>M5 rfl ⟨rfl,rfl⟩))(h:B):A:=k h
theorem ES{A B:Prop}(k:B→A:=by intro b;first|exact A6 rfl (E7 rfl rfl rfl (by simp<;>omega) (by repeat constructor) b)|exact A6 rfl (E8 rfl rfl (by simp<;>omega) (by repeat constructor) b)|exact Av (E7 rfl rfl rfl (by simp<;>omega) (by repeat constructor) b)|exact Av (E8 rfl rfl (by simp<;>omega) (by repeat constructor) b))(h:B):A:=k h
theorem x_{A B:Prop}(k:B→A:=by intro b;first|exact A6 rfl (Lo rfl rfl b)|exact Av (Lo rfl rfl b))(h:B):A:=k h
theorem C2(i:Nat){A B:Prop}(k:Do i B A:=by first|exact CJ rfl (Lo rfl rfl ⟨rfl,rfl⟩)|exact CK rfl (fun _ _=>Lo rfl rfl ⟨rfl,rfl⟩))(h:B):A:=k h
theorem k_{A B:Prop}(k:B→A:=by intro b;first|exact A6 rfl (Fs rfl b)|exact A6 rfl (Ft rfl b)|exact Av (Fs rfl b)|exact Av (Ft rfl b))(h:B):A:=k h
theorem Dj(i:Nat){A B:Prop}(k:Do i B A:=by first|exact CJ rfl (Fs rfl ⟨rfl,rfl⟩)|exact CJ rfl (Ft rfl ⟨rfl,rfl⟩)|exact CK rfl (fun _ _=>Fs rfl ⟨rfl,rfl⟩)|exact CK rfl (fun _ _=>Ft rfl ⟨rfl,rfl⟩))(h:B):A:=k h
theorem Ab{A B:Prop}(k:B→A:=by intro b;first|exact A6 rfl (KQ (by repeat (first|exact FillA.nil _|(apply FillA.cons;(focus exact rfl);(focus exact rfl);(focus exact rfl);(focus exact rfl);(focus exact rfl);(focus (repeat constructor))))) b)|exact Av (KQ (by repeat (first|exact FillA.nil _|(apply FillA.cons;(focus exact rfl);(focus exact rfl);(focus exact rfl);(focus exact rfl);(focus exact rfl);(focus (repeat constructor))))) b))(h:B):A:=k h
theorem GO(i:Nat){A B:Prop}(k:Do i B A:=by first|exact CJ rfl (KQ (by repeat (first|exact FillA.nil _|(apply FillA.cons;(focus exact rfl);(focus exact rfl);(focus exact rfl);(focus exact rfl);(focus exact rfl);(focus (repeat constructor))))) ⟨rfl,rfl⟩)|exact CK rfl (fun _ _=>KQ (by repeat (first|exact FillA.nil _|(apply FillA.cons;(focus exact rfl);(focus exact rfl);(focus exact rfl);(focus exact rfl);(focus exact rfl);(focus (repeat constructor))))) ⟨rfl,rfl⟩))(h:B):A:=k h
theorem Bo{A B:Prop}(k:B→A:=by intro b;first|exact A6 rfl (KR (by repeat (first|exact DenseA.nil _|(apply DenseA.cons;(focus exact rfl);(focus exact rfl);(focus exact rfl);(focus exact rfl))|(apply DenseA.consE;(focus exact rfl);(focus exact rfl);(focus exact rfl)))) rfl rfl rfl rfl b)|exact Av (KR (by repeat (first|exact DenseA.nil _|(apply DenseA.cons;(focus exact rfl);(focus exact rfl);(focus exact rfl);(focus exact rfl))|(apply DenseA.consE;(focus exact rfl);(focus exact rfl);(focus exact rfl)))) rfl rfl rfl rfl b))(h:B):A:=k h
theorem MX(i:Nat){A B:Prop}(k:Do i B A:=by first|exact CJ rfl (KR (by repeat (first|exact DenseA.nil _|(apply DenseA.cons;(focus exact rfl);(focus exact rfl);(focus exact rfl);(focus exact rfl))|(apply DenseA.consE;(focus exact rfl);(focus exact rfl);(focus exact rfl)))) rfl rfl rfl rfl ⟨rfl,rfl⟩)|exact CK rfl (fun _ _=>KR (by repeat (first|exact DenseA.nil _|(apply DenseA.cons;(focus exact rfl);(focus exact rfl);(focus exact rfl);(focus exact rfl))|(apply DenseA.consE;(focus exact rfl);(focus exact rfl);(focus exact rfl)))) rfl rfl rfl rfl ⟨rfl,rfl⟩))(h:B):A:=k h
theorem AB{A B:Prop}(k:B→A:=by intro b;first|exact A6 rfl (MP b)|exact Av (MP b))(h:B):A:=k h
theorem Gt(i:Nat){A B:Prop}(k:Do i B A:=by first|exact CJ rfl (MP ⟨rfl,rfl⟩)|exact CK rfl (fun _ _=>MP ⟨rfl,rfl⟩))(h:B):A:=k h
theorem AF{A B:Prop}(k:B→A:=by intro b;first|exact A6 rfl (MQ b)|exact Av (MQ b))(h:B):A:=k h
theorem Gu(i:Nat){A B:Prop}(k:Do i B A:=by first|exact CJ rfl (MQ ⟨rfl,rfl⟩)|exact CK rfl (fun _ _=>MQ ⟨rfl,rfl⟩))(h:B):A:=k h
theorem OK{A B:Prop}(k:B→A:=by intro b;first|exact A6 rfl (QM rfl b)|exact Av (QM rfl b))(h:B):A:=k h
theorem i_{A B:Prop}(k:B→A:=by intro b;first|exact A6 rfl (DV rfl rfl rfl (by first|assumption|rfl) b)|exact Av (DV rfl rfl rfl (by first|assumption|rfl) b))(h:B):A:=k h
theorem Dc(i:Nat){A B:Prop}(k:Do i B A:=by first|exact CJ rfl (DV rfl rfl rfl (by first|assumption|rfl) ⟨rfl,rfl⟩)|exact CK rfl (fun _ _=>DV rfl rfl rfl (by first|assumption|rfl) ⟨rfl,rfl⟩))(h:B):A:=k h
theorem Vd{A B:Prop}(k:B→A:=by intro b;first|exact A6 rfl (O4 rfl rfl (by omega) (by repeat constructor) b)|exact Av (O4 rfl rfl (by omega) (by repeat constructor) b))(h:B):A:=k h
theorem BB{A B:Prop}(k:B→A:=by intro b;first|exact A6 rfl (M2 rfl b)|exact Av (M2 rfl b))(h:B):A:=k h
theorem RD(i:Nat){A B:Prop}(k:Do i B A:=by first|exact CJ rfl (M2 rfl ⟨rfl,rfl⟩)|exact CK rfl (fun _ _=>M2 rfl ⟨rfl,rfl⟩))(h:B):A:=k h
theorem BE{A B:Prop}(k:B→A:=by intro b;first|exact A6 rfl (Hn rfl rfl (by omega) b)|exact A6 rfl (Dv rfl rfl (by omega) b)|exact A6 rfl (Nv rfl rfl b)|exact Av (Hn rfl rfl (by omega) b)|exact Av (Dv rfl rfl (by omega) b)|exact Av (Nv rfl rfl b))(h:B):A:=k h
theorem G0{A B:Prop}(k:B→A:=by intro b;first|exact A6 rfl (Ho rfl rfl (by omega) b)|exact A6 rfl (KO rfl rfl b)|exact Av (Ho rfl rfl (by omega) b)|exact Av (KO rfl rfl b))(h:B):A:=k h
theorem OL(i:Nat){A B:Prop}(k:Do i B A:=by first|exact CJ rfl (Ho rfl rfl (by omega) ⟨rfl,rfl⟩)|exact CJ rfl (KO rfl rfl ⟨rfl,rfl⟩)|exact CK rfl (fun _ _=>Ho rfl rfl (by omega) ⟨rfl,rfl⟩)|exact CK rfl (fun _ _=>KO rfl rfl ⟨rfl,rfl⟩))(h:B):A:=k h
theorem Ve{A B:Prop}(k:B→A:=by intro b;first|exact A6 rfl (QS rfl rfl b)|exact Av (QS rfl rfl b))(h:B):A:=k h
theorem AN{A B:Prop}(k:B→A:=by intro b;first|exact A6 rfl (KP rfl rfl b)|exact A6 rfl (Ly rfl rfl b)|exact A6 rfl (MG (by kernel_rfl) rfl rfl b)|exact Av (KP rfl rfl b)|exact Av (Ly rfl rfl b)|exact Av (MG (by kernel_rfl) rfl rfl b))(h:B):A:=k h
theorem Gv(i:Nat){A B:Prop}(k:Do i B A:=by first|exact CJ rfl (KP rfl rfl ⟨rfl,rfl⟩)|exact CJ rfl (Ly rfl rfl ⟨rfl,rfl⟩)|exact CJ rfl (MG (by kernel_rfl) rfl rfl ⟨rfl,rfl⟩)|exact CK rfl (fun _ _=>KP rfl rfl ⟨rfl,rfl⟩)|exact CK rfl (fun _ _=>Ly rfl rfl ⟨rfl,rfl⟩)|exact CK rfl (fun _ _=>MG (by kernel_rfl) rfl rfl ⟨rfl,rfl⟩))(h:B):A:=k h
theorem Ao{A B:Prop}(k:B→A:=by intro b;first|exact A6 rfl (Lt rfl rfl b)|exact A6 rfl (Lz rfl rfl b)|exact A6 rfl (MH (by kernel_rfl) rfl rfl b)|exact Av (Lt rfl rfl b)|exact Av (Lz rfl rfl b)|exact Av (MH (by kernel_rfl) rfl rfl b))(h:B):A:=k h
theorem OM(i:Nat){A B:Prop}(k:Do i B A:=by first|exact CJ rfl (Lt rfl rfl ⟨rfl,rfl⟩)|exact CJ rfl (Lz rfl rfl ⟨rfl,rfl⟩)|exact CJ rfl (MH (by kernel_rfl) rfl rfl ⟨rfl,rfl⟩)|exact CK rfl (fun _ _=>Lt rfl rfl ⟨rfl,rfl⟩)|exact CK rfl (fun _ _=>Lz rfl rfl ⟨rfl,rfl⟩)|exact CK rfl (fun _ _=>MH (by kernel_rfl) rfl rfl ⟨rfl,rfl⟩))(h:B):A:=k h
theorem B1{A B:Prop}(k:B→A:=by intro b;first|exact A6 rfl (Lu rfl rfl b)|exact A6 rfl (M0 rfl rfl b)|exact Av (Lu rfl rfl b)|exact Av (M0 rfl rfl b))(h:B):A:=k h
theorem Vf(i:Nat){A B:Prop}(k:Do i B A:=by first|exact CJ rfl (Lu rfl rfl ⟨rfl,rfl⟩)|exact CJ rfl (M0 rfl rfl ⟨rfl,rfl⟩)|exact CK rfl (fun _ _=>Lu rfl rfl ⟨rfl,rfl⟩)|exact CK rfl (fun _ _=>M0 rfl rfl ⟨rfl,rfl⟩))(h:B):A:=k h
theorem EC{A B:Prop}(k:B→A:=by intro b;first|exact A6 rfl (Lv rfl rfl b)|exact Av (Lv rfl rfl b))(h:B):A:=k h
theorem Vg(i:Nat){A B:Prop}(k:Do i B A:=by first|exact CJ rfl (Lv rfl rfl ⟨rfl,rfl⟩)|exact CK rfl (fun _ _=>Lv rfl rfl ⟨rfl,rfl⟩))(h:B):A:=k h
theorem Bb{A B:Prop}(k:B→A:=by intro b;first|exact A6 rfl (Lw rfl rfl b)|exact Av (Lw rfl rfl b))(h:B):A:=k h
theorem ON(i:Nat){A B:Prop}(k:Do i B A:=by first|exact CJ rfl (Lw rfl rfl ⟨rfl,rfl⟩)|exact CK rfl (fun _ _=>Lw rfl rfl ⟨rfl,rfl⟩))(h:B):A:=k h
theorem DL{A B:Prop}(k:B→A:=by intro b;first|exact A6 rfl (Lx rfl rfl b)|exact A6 rfl (M1 rfl rfl b)|exact Av (Lx rfl rfl b)|exact Av (M1 rfl rfl b))(h:B):A:=k h
theorem RE(i:Nat){A B:Prop}(k:Do i B A:=by first|exact CJ rfl (Lx rfl rfl ⟨rfl,rfl⟩)|exact CJ rfl (M1 rfl rfl ⟨rfl,rfl⟩)|exact CK rfl (fun _ _=>Lx rfl rfl ⟨rfl,rfl⟩)|exact CK rfl (fun _ _=>M1 rfl rfl ⟨rfl,rfl⟩))(h:B):A:=k h
theorem MY{A B:Prop}(k:B→A:=by intro b;first|exact A6 rfl (Qp rfl rfl b)|exact Av (Qp rfl rfl b))(h:B):A:=k h
theorem at_{A B:Prop}(k:B→A:=by intro b;first|exact A6 rfl (Qz rfl rfl b)|exact Av (Qz rfl rfl b))(h:B):A:=k h
theorem Vh{A B:Prop}(k:B→A:=by intro b;first|exact A6 rfl (Qq rfl rfl b)|exact Av (Qq rfl rfl b))(h:B):A:=k h
theorem RF{A B:Prop}(k:B→A:=by intro b;first|exact A6 rfl (Qr rfl rfl (by omega) b)|exact Av (Qr rfl rfl (by omega) b))(h:B):A:=k h
theorem C0{f:Nat→Option AV}{bx:List (List AV)}{tk:List (Nat×Nat×List (List AV))}{l:List (Nat×AV)}{N:Dim}(n m:Nat){bx':List (List AV)}{tk':List (Nat×Nat×List (List AV))}(hbp:BH n m bx'=true)(hn:Nat.ble N.ni n=true:=by rfl)(hb:bx.take n=bx':=by rfl)(ht:tk.take m=tk':=by rfl)(hl:Sub n m f l:=by repeat (first|exact Sub.nil|refine Sub.cons _ _ _ rfl rfl ?_|refine Sub.any _ _ ?_|refine Sub.sl _ _ _ _ _ rfl ?_|refine Sub.slnil _ _ _ rfl ?_)):EZ N ⟨f,⟨bx,tk⟩⟩ ⟨look l,⟨bx',tk'⟩⟩:=Az n m hn hb ht hbp hl
theorem E0{P:Program}{ev:Operand→Option AV}{h:AH}{R:AV→AH→Prop}{d:Option Tmp}{ty:TypeId}{pos:String}{af:Array Edge}{gd:Option (Nat×Bool)}{T:TypeId}{l:List (Nat×Operand)}{pl:List (Nat×Nat)}{row cs:List AV}[hp:Plc P T pl][hz:Zer P T row](hR:R (.agg cs) h)(hf:FillA pl ev row l cs:=by repeat (first|exact FillA.nil _|(apply FillA.cons;(focus exact rfl);(focus exact rfl);(focus exact rfl);(focus exact rfl);(focus exact rfl);(focus (repeat constructor))))):AStep P ⟨d, .build T l.toArray,ty,pos,af,gd⟩ ev h R:=KQ hf hR
theorem Gw{P:Program}{ev:Operand→Option AV}{h:AH}{R:AV→AH→Prop}{o:Oper}{x y:AV}(hs:AStep P o ev h fun r h'=>r=x∧h'=h)(hR:R y h)(hl:LeA x y:=by repeat (first|exact AX _|exact LeA.nil _|exact LeL.refl _|refine LeA.agg ?_|refine LeA.tup ?_|exact LeL.nil|refine LeL.cons ?_ ?_|exact LeA.any _)):AStep P o ev h R:=Fz hs hl hR
inductive SubT(n k:Nat)(f:Nat→Option AV):List (Nat×AV)→Prop
 |nil:SubT n k f []
 |cons (t:Nat) (x y:AV) (l:List (Nat×AV)):f t=some x→Cr (some k) x=y→B6 n 1 y=true→SubT n k f l→SubT n k f ((t,y)::l)
theorem SubT.get{n k:Nat}{f:Nat→Option AV}{l:List (Nat×AV)}(h:SubT n k f l){t:Nat}{y:AV}(ht:look l t=some y):∃x,f t=some x∧Cr (some k) x=y∧B6 n 1 y=true:=by
 induction h with
 |nil=>cases ht
 |cons t' x y' l h1 h2 h3 _ ih=>
   unfold look at ht;split at ht
   ·rename_i hb;have:=Nat.eq_of_beq_eq_true hb;subst this;injection ht with ht;subst ht;exact⟨x,h1,h2,h3⟩
   exact ih ht
theorem RG{f:Nat→Option AV}{bx bx':List (List AV)}{tk:List C5}{l:List (Nat×AV)}{N:Dim}(n k:Nat){t:C5}(hn:Nat.ble N.ni n=true:=by rfl)(hk:tk[k]?=some t:=by rfl)(hb:bx.take n=bx':=by rfl)(hbp:BH n 0 bx'=true:=by rfl)(hl:SubT n k f l:=by repeat (first|exact SubT.nil|refine SubT.cons _ _ _ _ rfl rfl rfl ?_)):EZ N ⟨f,⟨bx,tk⟩⟩ ⟨look l,⟨bx',[t]⟩⟩:=by
 rintro E a w ⟨G,h1,h2,h3,h4,h5⟩;subst hb;have t1:=h1.trunc n 0 (by rw[h5];exact B8 hn) hbp;obtain⟨T,sz,rows⟩:=t;have hkl:k<G.tk.length:=by rw[h1.tklen];exact(Ah.1 hk).1
 have hgk:G.tk[k]?=some G.tk[k]:=BR hkl;rcases hp:G.tk[k]with⟨n',u⟩;rw[hp]at hgk;obtain⟨z1,z2,z3⟩:=h1.tok k n' u T sz rows hgk hk;obtain⟨y1, -⟩:=t1.addTok (T:=T) (sz:=sz) (n:=n') (u:=u) (rows:=rows) ⟨z1,z2,z3⟩ (fun b hb hm=>h1.tkbx k n' u hgk b hb (List.mem_of_mem_take hm)) (fun g' n1 u1 hg'=>by simp at hg');refine⟨⟨G.St,G.bx.take n,[(n',u)]⟩,by simpa using y1,fun t y hy=>?_,h3,h4,h5⟩;obtain⟨x,q1,q2,q3⟩:=hl.get hy;have:=Hp n 1 _ _ q3 (by rw[←q2];exact M7 (g:=some k) (tkl:=[(n',u)]) (fun k' hk'=>by injection hk' with hk';subst hk';exact⟨_,hgk,rfl⟩) _ _ (h2 t x q1))
 simpa using this
def RH(P:Program)(f:FuncId)(l:List Int)(a:Nat)(xs:List AV)(c T sz:Nat)(R:List (List AV)→Prop):Prop:=
 ACall P f (.bp 0 0::xs) [Cm l a] (fun r bx' tk'=>∃(a':Nat) (rows:List (List AV)),a'≤a+c∧bx'=[Cm l a']∧tk'=[(T,sz,rows)]∧r= .sl sz rows (some 0)∧R rows)
section
variable {P:Program}{ev:Operand→Option AV}{bx:List (List AV)}{tk:List C5}{R:AV→AH→Prop}{d:Option Tmp}{ty:TypeId}{pos:String}{af:Array Edge}{gd:Option (Nat×Bool)}{ats:Array TypeId}
theorem Vi{f:FuncId}{ops:List Operand}{l:List Int}{a c T sz n:Nat}{xs:List AV}{R0:List (List AV)→Prop}(i:Nat)[Fun P f](hrow:bx[i]?=some (Cm l a):=by rfl)(ha:ArgsB i ev ops (.bp 0 0::xs):=by repeat (first|exact ArgsB.nil|refine ArgsB.cons _ _ _ _ _ rfl rfl ?_))(hc:RH P f l a xs c T sz R0)
    (hR:∀rows a',a'≤a+c→R0 rows→∃bx',SetAt bx i [Cm l a'] bx'∧R (.sl sz rows (some n)) ⟨bx',tk++[(T,sz,rows)]⟩) (hn:tk.length=n:=by rfl) (hfo:ev (.func f)=some (.fn f []):=by rfl):AStep P ⟨d, .call {callee:= .value (.func f),args:=ops.toArray,argTypes:=ats},ty,pos,af,gd⟩ ev ⟨bx,tk⟩ R:=by
 intro E G w ec hr he;obtain⟨cs,k1,k2⟩:=GK (he (.func f) (by simp[Op.operands,Call.operands]) _ hfo);simp only[AT]at k2;subst k2;have hlt:i<G.bx.length:=by rw[hr.bxlen];exact(Ah.1 hrow).1
 have hb:G.bx[i]?=some G.bx[i]:=BR hlt;generalize G.bx[i]=b at hb;refine GJ k1 ?_;rw[List.append_nil];refine Calls.mono (hc w G.St [b] _ (Qv hr hb hrow rfl) (ha.rep hb fun x hx av hav=>he x (by simp[Op.operands,Call.operands,hx]) av hav)) ?_;intro e w' h3
 cases e with
 |returned v=>
   obtain⟨r,bx',tk',Gc,⟨a',rows,q1,rfl,rfl,rfl,q2⟩,h1,h2,h3⟩:=h3;have hl1:Gc.bx.length=1:=h1.bxlen;have t0:=h1.trunc 1 0 (At 1) rfl;rw[List.take_of_length_le (by omega)]at t0;have t1:HRel ⟨w,[b],G.St⟩ ⟨Gc.St,Gc.bx,[]⟩ ⟨[Cm l a'],[]⟩ w':=by simpa using t0
   obtain⟨m1,m2⟩:=Qw hr hb t1 ⟨h2.st,h2.bx,fun g n u hg=>by simp at hg⟩ rfl;have hk0:Gc.tk.length=1:=h1.tklen;rcases hg:Gc.tk with _|⟨⟨n1,u⟩,tl⟩
   ·rw[hg]at hk0;cases hk0
   have htl:tl=[]:=by rw[hg]at hk0;exact Cj (by simpa using hk0)
   subst htl;have hg0:Gc.tk[0]?=some (n1,u):=by rw[hg];rfl
   obtain⟨z1,⟨xs1,z2⟩,z3⟩:=h1.tok 0 n1 u T sz rows hg0 rfl;have hown:∀b',u.ownBlock=some b'→w.heap.size≤b':=fun b' hb'=>(h1.toklt hg0 hb').1
   obtain⟨y1,y2⟩:=m1.addTok (T:=T) (sz:=sz) (n:=n1) (u:=u) (rows:=rows) ⟨z1,⟨xs1,Qg z2 hr.kept.size⟩,z3⟩
    (fun b' hb' hm=>by have:=hr.boxlt hm;have:=hown b' hb';omega) (fun g' n2 u2 hg' b' hb' e=>by have:=(hr.toklt hg' e).2;have:=hown b' hb';omega)
   obtain⟨bx2,q3,q4⟩:=hR rows a' q1 q2;obtain⟨_,e⟩:=SetAt.one q3;subst e;refine⟨_,_,_,q4,y1,m2.trans y2,?_⟩;simp only[rep]at h3 ⊢;obtain⟨p0,n2,u2,p1,p2⟩:=h3;rw[hg0]at p1;injection p1 with p1;injection p1 with p1 p3;subst p1;subst p3;refine⟨p0,n1,u,?_,p2⟩;show(G.tk++[(n1,u)])[n]?=_;rw[←hn,←hr.tklen,Cy (At _)];simp
 |panicked c=>exact h3.elim
 |outgrown=>exact h3.elim
end
instance :Typ prog 3 1 false:=⟨by kernel_rfl⟩
instance :Typ prog 4 1 false:=⟨by kernel_rfl⟩
instance :Zer prog 4 [.v (.bool false)]:=⟨[.bool false],by kernel_rfl,rfl,rfl⟩
instance :Typ prog 9 1 false:=⟨by kernel_rfl⟩
instance :Typ prog 22 1 false:=⟨by kernel_rfl⟩
instance :Elm prog 22 3 1 8:=⟨by kernel_rfl,by decide⟩
instance :Typ prog 26 2 true:=⟨by kernel_rfl⟩
instance :Zer prog 26 [.v (.int .i64 0), .v (.int .i64 0)]:=⟨[.int .i64 0, .int .i64 0],by kernel_rfl,rfl,rfl⟩
instance :Plc prog 26 [(0,1),(1,1)]:=⟨by kernel_rfl⟩
instance :Fld prog 26 0 0 1:=⟨by kernel_rfl⟩
instance :Fld prog 26 1 1 1:=⟨by kernel_rfl⟩
instance :Zer prog 29 [.v (.int .i64 0), .v (.int .i64 0), .v (.int .i64 0), .v (.int .i64 0), .v (.int .i64 0), .v (.int .i64 0), .v (.int .i64 0), .v (.int .i64 0), .v (.int .i64 0), .v (.int .i64 0), .v (.string ⟨#[]⟩), .v (.string ⟨#[]⟩), .v (.slice none 0 0), .v (.bool false)]:=⟨[.int .i64 0, .int .i64 0, .int .i64 0, .int .i64 0, .int .i64 0, .int .i64 0, .int .i64 0, .int .i64 0, .int .i64 0, .int .i64 0, .string ⟨#[]⟩, .string ⟨#[]⟩, .slice none 0 0, .bool false],by kernel_rfl,rfl,rfl⟩
instance :Plc prog 29 [(0,1),(1,1),(2,1),(3,1),(4,1),(5,1),(6,1),(7,1),(8,2),(10,1),(11,1),(12,1),(13,1)]:=⟨by kernel_rfl⟩
instance :Fld prog 29 0 0 1:=⟨by kernel_rfl⟩
instance :Fld prog 29 1 1 1:=⟨by kernel_rfl⟩
instance :Fld prog 29 2 2 1:=⟨by kernel_rfl⟩
instance :Fld prog 29 3 3 1:=⟨by kernel_rfl⟩
instance :Fld prog 29 4 4 1:=⟨by kernel_rfl⟩
instance :Fld prog 29 5 5 1:=⟨by kernel_rfl⟩
instance :Fld prog 29 6 6 1:=⟨by kernel_rfl⟩
instance :Fld prog 29 7 7 1:=⟨by kernel_rfl⟩
instance :Fld prog 29 9 10 1:=⟨by kernel_rfl⟩
instance :Fld prog 29 10 11 1:=⟨by kernel_rfl⟩
instance :Fld prog 29 12 13 1:=⟨by kernel_rfl⟩
instance :Typ prog 31 1 false:=⟨by kernel_rfl⟩
instance :Elm prog 31 9 1 16:=⟨by kernel_rfl,by decide⟩
instance :Fld prog 33 0 0 1:=⟨by kernel_rfl⟩
instance :Fld prog 33 1 1 4:=⟨by kernel_rfl⟩
instance :Typ prog 34 1 false:=⟨by kernel_rfl⟩
instance :Elm prog 34 121 13 128:=⟨by kernel_rfl,by decide⟩
instance :Typ prog 36 25 true:=⟨by kernel_rfl⟩
instance :Zer prog 36 [.v (.int .i64 0), .v (.int .i64 0), .v (.int .i64 0), .v (.int .i64 0), .v (.int .i64 0), .v (.int .i64 0), .v (.int .i64 0), .v (.int .i64 0), .v (.int .i64 0), .v (.int .i64 0), .v (.int .i64 0), .v (.string ⟨#[]⟩), .v (.string ⟨#[]⟩), .v (.slice none 0 0), .v (.bool false), .v (.int .i64 0), .v (.int .i64 0), .v (.int .i64 0), .v (.int .i64 0), .v (.int .i64 0), .v (.slice none 0 0), .v (.slice none 0 0), .v (.int .i64 0), .v (.slice none 0 0), .v (.int .i64 0)]:=⟨[.int .i64 0, .int .i64 0, .int .i64 0, .int .i64 0, .int .i64 0, .int .i64 0, .int .i64 0, .int .i64 0, .int .i64 0, .int .i64 0, .int .i64 0, .string ⟨#[]⟩, .string ⟨#[]⟩, .slice none 0 0, .bool false, .int .i64 0, .int .i64 0, .int .i64 0, .int .i64 0, .int .i64 0, .slice none 0 0, .slice none 0 0, .int .i64 0, .slice none 0 0, .int .i64 0],by kernel_rfl,rfl,rfl⟩
instance :Plc prog 36 [(0,1),(1,14),(15,7),(22,1),(23,1),(24,1)]:=⟨by kernel_rfl⟩
instance :Fld prog 36 0 0 1:=⟨by kernel_rfl⟩
instance :Fld prog 36 1 1 14:=⟨by kernel_rfl⟩
instance :Fld prog 36 2 15 7:=⟨by kernel_rfl⟩
instance :Fld prog 36 3 22 1:=⟨by kernel_rfl⟩
instance :Fld prog 36 4 23 1:=⟨by kernel_rfl⟩
instance :Fld prog 36 5 24 1:=⟨by kernel_rfl⟩
instance :Typ prog 37 1 false:=⟨by kernel_rfl⟩
instance :Elm prog 37 148 2 32:=⟨by kernel_rfl,by decide⟩
instance :Typ prog 39 1 true:=⟨by kernel_rfl⟩
instance :Zer prog 39 [.v (.slice none 0 0)]:=⟨[.slice none 0 0],by kernel_rfl,rfl,rfl⟩
instance :Plc prog 39 [(0,1)]:=⟨by kernel_rfl⟩
instance :Fld prog 39 0 0 1:=⟨by kernel_rfl⟩
instance :Typ prog 40 1 false:=⟨by kernel_rfl⟩
instance :Elm prog 40 185 3 24:=⟨by kernel_rfl,by decide⟩
instance :Typ prog 42 2 true:=⟨by kernel_rfl⟩
instance :Zer prog 42 [.v (.slice none 0 0), .v (.slice none 0 0)]:=⟨[.slice none 0 0, .slice none 0 0],by kernel_rfl,rfl,rfl⟩
instance :Plc prog 42 [(0,1),(1,1)]:=⟨by kernel_rfl⟩
instance :Fld prog 42 0 0 1:=⟨by kernel_rfl⟩
instance :Fld prog 42 1 1 1:=⟨by kernel_rfl⟩
instance :Elm prog 43 29 14 144:=⟨by kernel_rfl,by decide⟩
instance :Typ prog 45 3 true:=⟨by kernel_rfl⟩
instance :Zer prog 45 [.v (.int .i64 0), .v (.int .i64 0), .v (.slice none 0 0)]:=⟨[.int .i64 0, .int .i64 0, .slice none 0 0],by kernel_rfl,rfl,rfl⟩
instance :Plc prog 45 [(0,1),(1,1),(2,1)]:=⟨by kernel_rfl⟩
instance :Typ prog 47 5 true:=⟨by kernel_rfl⟩
instance :Zer prog 47 [.v (.slice none 0 0), .v (.slice none 0 0), .v (.int .i64 0), .v (.int .i64 0), .v (.slice none 0 0)]:=⟨[.slice none 0 0, .slice none 0 0, .int .i64 0, .int .i64 0, .slice none 0 0],by kernel_rfl,rfl,rfl⟩
instance :Plc prog 47 [(0,2),(2,3)]:=⟨by kernel_rfl⟩
instance :Fld prog 47 0 0 2:=⟨by kernel_rfl⟩
instance :Elm prog 48 248 7 64:=⟨by kernel_rfl,by decide⟩
instance :Typ prog 54 1 false:=⟨by kernel_rfl⟩
instance :Elm prog 54 83 8 96:=⟨by kernel_rfl,by decide⟩
instance :Typ prog 57 1 false:=⟨by kernel_rfl⟩
instance :Elm prog 57 4 1 1:=⟨by kernel_rfl,by decide⟩
instance :Typ prog 61 1 false:=⟨by kernel_rfl⟩
instance :Elm prog 61 93 6 56:=⟨by kernel_rfl,by decide⟩
instance :Typ prog 63 2 true:=⟨by kernel_rfl⟩
instance :Zer prog 63 [.v (.slice none 0 0), .v (.slice none 0 0)]:=⟨[.slice none 0 0, .slice none 0 0],by kernel_rfl,rfl,rfl⟩
instance :Plc prog 63 [(0,1),(1,1)]:=⟨by kernel_rfl⟩
instance :Fld prog 63 0 0 1:=⟨by kernel_rfl⟩
instance :Fld prog 63 1 1 1:=⟨by kernel_rfl⟩
instance :Typ prog 67 3 true:=⟨by kernel_rfl⟩
instance :Zer prog 67 [.v (.bool false), .v (.int .i64 0), .v (.string ⟨#[]⟩)]:=⟨[.bool false, .int .i64 0, .string ⟨#[]⟩],by kernel_rfl,rfl,rfl⟩
instance :Plc prog 67 [(0,1),(1,1),(2,1)]:=⟨by kernel_rfl⟩
instance :Fld prog 67 0 0 1:=⟨by kernel_rfl⟩
instance :Fld prog 67 1 1 1:=⟨by kernel_rfl⟩
instance :Fld prog 67 2 2 1:=⟨by kernel_rfl⟩
instance :Typ prog 80 1 false:=⟨by kernel_rfl⟩
instance :Typ prog 81 1 false:=⟨by kernel_rfl⟩
instance :Elm prog 81 115 5 48:=⟨by kernel_rfl,by decide⟩
instance :Typ prog 83 8 true:=⟨by kernel_rfl⟩
instance :Zer prog 83 [.v (.int .i64 0), .v (.int .i64 0), .v (.int .u64 0), .v (.slice none 0 0), .v (.int .i64 0), .v (.string ⟨#[]⟩), .v (.int .i64 0), .v (.string ⟨#[]⟩)]:=⟨[.int .i64 0, .int .i64 0, .int .u64 0, .slice none 0 0, .int .i64 0, .string ⟨#[]⟩, .int .i64 0, .string ⟨#[]⟩],by kernel_rfl,rfl,rfl⟩
instance :Plc prog 83 [(0,1),(1,1),(2,1),(3,1),(4,1),(5,1),(6,1),(7,1)]:=⟨by kernel_rfl⟩
instance :Fld prog 83 0 0 1:=⟨by kernel_rfl⟩
instance :Fld prog 83 1 1 1:=⟨by kernel_rfl⟩
instance :Fld prog 83 2 2 1:=⟨by kernel_rfl⟩
instance :Fld prog 83 3 3 1:=⟨by kernel_rfl⟩
instance :Fld prog 83 4 4 1:=⟨by kernel_rfl⟩
instance :Fld prog 83 5 5 1:=⟨by kernel_rfl⟩
instance :Fld prog 83 6 6 1:=⟨by kernel_rfl⟩
instance :Fld prog 83 7 7 1:=⟨by kernel_rfl⟩
instance :Typ prog 93 6 true:=⟨by kernel_rfl⟩
instance :Zer prog 93 [.v (.int .i64 0), .v (.int .i64 0), .v (.int .i64 0), .v (.string ⟨#[]⟩), .v (.int .i64 0), .v (.int .i64 0)]:=⟨[.int .i64 0, .int .i64 0, .int .i64 0, .string ⟨#[]⟩, .int .i64 0, .int .i64 0],by kernel_rfl,rfl,rfl⟩
instance :Plc prog 93 [(0,1),(1,2),(3,1),(4,2)]:=⟨by kernel_rfl⟩
instance :Fld prog 93 0 0 1:=⟨by kernel_rfl⟩
instance :Fld prog 93 1 1 2:=⟨by kernel_rfl⟩
instance :Fld prog 93 2 3 1:=⟨by kernel_rfl⟩
instance :Fld prog 93 3 4 2:=⟨by kernel_rfl⟩
instance :Zer prog 105 [.v (.slice none 0 0), .v (.int .i64 0)]:=⟨[.slice none 0 0, .int .i64 0],by kernel_rfl,rfl,rfl⟩
instance :Plc prog 105 [(0,1),(1,1)]:=⟨by kernel_rfl⟩
instance :Fld prog 105 0 0 1:=⟨by kernel_rfl⟩
instance :Fld prog 105 1 1 1:=⟨by kernel_rfl⟩
instance :Typ prog 115 5 true:=⟨by kernel_rfl⟩
instance :Zer prog 115 [.v (.int .i64 0), .v (.int .i64 0), .v (.int .i64 0), .v (.string ⟨#[]⟩), .v (.int .i64 0)]:=⟨[.int .i64 0, .int .i64 0, .int .i64 0, .string ⟨#[]⟩, .int .i64 0],by kernel_rfl,rfl,rfl⟩
instance :Plc prog 115 [(0,1),(1,1),(2,1),(3,1),(4,1)]:=⟨by kernel_rfl⟩
instance :Fld prog 115 0 0 1:=⟨by kernel_rfl⟩
instance :Fld prog 115 1 1 1:=⟨by kernel_rfl⟩
instance :Fld prog 115 2 2 1:=⟨by kernel_rfl⟩
instance :Fld prog 115 3 3 1:=⟨by kernel_rfl⟩
instance :Fld prog 115 4 4 1:=⟨by kernel_rfl⟩
instance :Typ prog 121 13 true:=⟨by kernel_rfl⟩
instance :Zer prog 121 [.v (.string ⟨#[]⟩), .v (.string ⟨#[]⟩), .v (.int .i64 0), .v (.int .i64 0), .v (.string ⟨#[]⟩), .v (.int .i64 0), .v (.int .i64 0), .v (.int .i64 0), .v (.int .i64 0), .v (.int .i64 0), .v (.int .i64 0), .v (.int .i64 0), .v (.int .i64 0)]:=⟨[.string ⟨#[]⟩, .string ⟨#[]⟩, .int .i64 0, .int .i64 0, .string ⟨#[]⟩, .int .i64 0, .int .i64 0, .int .i64 0, .int .i64 0, .int .i64 0, .int .i64 0, .int .i64 0, .int .i64 0],by kernel_rfl,rfl,rfl⟩
instance :Plc prog 121 [(0,1),(1,1),(2,2),(4,1),(5,2),(7,1),(8,1),(9,1),(10,1),(11,1),(12,1)]:=⟨by kernel_rfl⟩
instance :Fld prog 121 2 2 2:=⟨by kernel_rfl⟩
instance :Fld prog 121 3 4 1:=⟨by kernel_rfl⟩
instance :Fld prog 121 4 5 2:=⟨by kernel_rfl⟩
instance :Fld prog 121 6 8 1:=⟨by kernel_rfl⟩
instance :Fld prog 121 8 10 1:=⟨by kernel_rfl⟩
instance :Fld prog 121 9 11 1:=⟨by kernel_rfl⟩
instance :Fld prog 121 10 12 1:=⟨by kernel_rfl⟩
instance :Typ prog 125 1 false:=⟨by kernel_rfl⟩
instance :Typ prog 146 1 false:=⟨by kernel_rfl⟩
instance :Elm prog 146 151 8 88:=⟨by kernel_rfl,by decide⟩
instance :Typ prog 148 2 true:=⟨by kernel_rfl⟩
instance :Zer prog 148 [.v (.int .i64 0), .v (.slice none 0 0)]:=⟨[.int .i64 0, .slice none 0 0],by kernel_rfl,rfl,rfl⟩
instance :Plc prog 148 [(0,1),(1,1)]:=⟨by kernel_rfl⟩
instance :Fld prog 148 0 0 1:=⟨by kernel_rfl⟩
instance :Fld prog 148 1 1 1:=⟨by kernel_rfl⟩
instance :Typ prog 149 1 false:=⟨by kernel_rfl⟩
instance :Elm prog 149 234 2 24:=⟨by kernel_rfl,by decide⟩
instance :Typ prog 151 8 true:=⟨by kernel_rfl⟩
instance :Zer prog 151 [.v (.int .i64 0), .v (.int .i64 0), .v (.int .i64 0), .v (.int .i64 0), .v (.int .i64 0), .v (.int .i64 0), .v (.string ⟨#[]⟩), .v (.slice none 0 0)]:=⟨[.int .i64 0, .int .i64 0, .int .i64 0, .int .i64 0, .int .i64 0, .int .i64 0, .string ⟨#[]⟩, .slice none 0 0],by kernel_rfl,rfl,rfl⟩
instance :Plc prog 151 [(0,1),(1,1),(2,1),(3,1),(4,1),(5,1),(6,1),(7,1)]:=⟨by kernel_rfl⟩
instance :Fld prog 151 0 0 1:=⟨by kernel_rfl⟩
instance :Fld prog 151 1 1 1:=⟨by kernel_rfl⟩
instance :Fld prog 151 2 2 1:=⟨by kernel_rfl⟩
instance :Fld prog 151 3 3 1:=⟨by kernel_rfl⟩
instance :Fld prog 151 4 4 1:=⟨by kernel_rfl⟩
instance :Fld prog 151 5 5 1:=⟨by kernel_rfl⟩
instance :Fld prog 151 6 6 1:=⟨by kernel_rfl⟩
instance :Fld prog 151 7 7 1:=⟨by kernel_rfl⟩
instance :Zer prog 176 [.v (.int .i64 0), .v (.int .i64 0), .v (.int .i64 0), .v (.int .i64 0)]:=⟨[.int .i64 0, .int .i64 0, .int .i64 0, .int .i64 0],by kernel_rfl,rfl,rfl⟩
instance :Plc prog 176 [(0,2),(2,2)]:=⟨by kernel_rfl⟩
instance :Typ prog 185 3 true:=⟨by kernel_rfl⟩
instance :Zer prog 185 [.v (.int .i64 0), .v (.int .i64 0), .v (.int .i64 0)]:=⟨[.int .i64 0, .int .i64 0, .int .i64 0],by kernel_rfl,rfl,rfl⟩
instance :Plc prog 185 [(0,1),(1,2)]:=⟨by kernel_rfl⟩
instance :Fld prog 185 0 0 1:=⟨by kernel_rfl⟩
instance :Fld prog 185 1 1 2:=⟨by kernel_rfl⟩
instance :Typ prog 200 8 true:=⟨by kernel_rfl⟩
instance :Zer prog 200 [.v (.int .i64 0), .v (.int .i64 0), .v (.string ⟨#[]⟩), .v (.int .i64 0), .v (.int .i64 0), .v (.bool false), .v (.bool false), .v (.string ⟨#[]⟩)]:=⟨[.int .i64 0, .int .i64 0, .string ⟨#[]⟩, .int .i64 0, .int .i64 0, .bool false, .bool false, .string ⟨#[]⟩],by kernel_rfl,rfl,rfl⟩
instance :Plc prog 200 [(0,2),(2,1),(3,2),(5,1),(6,1),(7,1)]:=⟨by kernel_rfl⟩
instance :Fld prog 200 0 0 2:=⟨by kernel_rfl⟩
instance :Fld prog 200 1 2 1:=⟨by kernel_rfl⟩
instance :Fld prog 200 2 3 2:=⟨by kernel_rfl⟩
instance :Fld prog 200 3 5 1:=⟨by kernel_rfl⟩
instance :Fld prog 200 4 6 1:=⟨by kernel_rfl⟩
instance :Fld prog 200 5 7 1:=⟨by kernel_rfl⟩
instance :Typ prog 234 2 true:=⟨by kernel_rfl⟩
instance :Zer prog 234 [.v (.string ⟨#[]⟩), .v (.int .i64 0)]:=⟨[.string ⟨#[]⟩, .int .i64 0],by kernel_rfl,rfl,rfl⟩
instance :Plc prog 234 [(0,1),(1,1)]:=⟨by kernel_rfl⟩
instance :Fld prog 234 0 0 1:=⟨by kernel_rfl⟩
instance :Fld prog 234 1 1 1:=⟨by kernel_rfl⟩
instance :Zer prog 248 [.v (.int .i64 0), .v (.int .i64 0), .v (.string ⟨#[]⟩), .v (.int .i64 0), .v (.int .i64 0), .v (.int .i64 0), .v (.int .i64 0)]:=⟨[.int .i64 0, .int .i64 0, .string ⟨#[]⟩, .int .i64 0, .int .i64 0, .int .i64 0, .int .i64 0],by kernel_rfl,rfl,rfl⟩
instance :Plc prog 248 [(0,2),(2,1),(3,2),(5,2)]:=⟨by kernel_rfl⟩
instance :Elm prog 274 125 1 8:=⟨by kernel_rfl,by decide⟩
instance :Typ prog 282 11 true:=⟨by kernel_rfl⟩
instance :Zer prog 282 [.v (.slice none 0 0), .v (.slice none 0 0), .v (.slice none 0 0), .v (.int .i64 0), .v (.int .i64 0), .v (.int .i64 0), .v (.int .i64 0), .v (.string ⟨#[]⟩), .v (.bool false), .v (.bool false), .v (.int .i64 0)]:=⟨[.slice none 0 0, .slice none 0 0, .slice none 0 0, .int .i64 0, .int .i64 0, .int .i64 0, .int .i64 0, .string ⟨#[]⟩, .bool false, .bool false, .int .i64 0],by kernel_rfl,rfl,rfl⟩
instance :Plc prog 282 [(0,2),(2,1),(3,2),(5,2),(7,1),(8,1),(9,1),(10,1)]:=⟨by kernel_rfl⟩
instance :Fld prog 282 0 0 2:=⟨by kernel_rfl⟩
instance :Fld prog 282 1 2 1:=⟨by kernel_rfl⟩
instance :Fld prog 282 2 3 2:=⟨by kernel_rfl⟩
instance :Fld prog 282 3 5 2:=⟨by kernel_rfl⟩
instance :Fld prog 282 4 7 1:=⟨by kernel_rfl⟩
instance :Fld prog 282 5 8 1:=⟨by kernel_rfl⟩
instance :Fld prog 282 6 9 1:=⟨by kernel_rfl⟩
instance :Fld prog 282 7 10 1:=⟨by kernel_rfl⟩
instance :Fun prog 12:=⟨by kernel_rfl⟩
instance :Fun prog 15:=⟨by kernel_rfl⟩
instance :Fun prog 16:=⟨by kernel_rfl⟩
instance :Fun prog 21:=⟨by kernel_rfl⟩
instance :Fun prog 22:=⟨by kernel_rfl⟩
instance :Fun prog 24:=⟨by kernel_rfl⟩
instance :Fun prog 26:=⟨by kernel_rfl⟩
instance :Fun prog 32:=⟨by kernel_rfl⟩
instance :Fun prog 34:=⟨by kernel_rfl⟩
instance :Fun prog 35:=⟨by kernel_rfl⟩
instance :Fun prog 40:=⟨by kernel_rfl⟩
instance :Fun prog 41:=⟨by kernel_rfl⟩
instance :Fun prog 42:=⟨by kernel_rfl⟩
instance :Fun prog 43:=⟨by kernel_rfl⟩
instance :Fun prog 44:=⟨by kernel_rfl⟩
instance :Fun prog 46:=⟨by kernel_rfl⟩
instance :Fun prog 47:=⟨by kernel_rfl⟩
instance :Fun prog 54:=⟨by kernel_rfl⟩
instance :Fun prog 56:=⟨by kernel_rfl⟩
instance :Fun prog 60:=⟨by kernel_rfl⟩
instance :Fun prog 61:=⟨by kernel_rfl⟩
instance :Fun prog 62:=⟨by kernel_rfl⟩
instance :Fun prog 63:=⟨by kernel_rfl⟩
instance :Fun prog 64:=⟨by kernel_rfl⟩
instance :Fun prog 67:=⟨by kernel_rfl⟩
instance :Fun prog 70:=⟨by kernel_rfl⟩
instance :Fun prog 71:=⟨by kernel_rfl⟩
instance :Fun prog 72:=⟨by kernel_rfl⟩
instance :Fun prog 73:=⟨by kernel_rfl⟩
instance :Fun prog 75:=⟨by kernel_rfl⟩
instance :Fun prog 76:=⟨by kernel_rfl⟩
instance :Fun prog 78:=⟨by kernel_rfl⟩
instance :Fun prog 81:=⟨by kernel_rfl⟩
instance :Fun prog 82:=⟨by kernel_rfl⟩
instance :Fun prog 83:=⟨by kernel_rfl⟩
instance :Fun prog 84:=⟨by kernel_rfl⟩
instance :Fun prog 85:=⟨by kernel_rfl⟩
instance :Fun prog 86:=⟨by kernel_rfl⟩
instance :Fun prog 87:=⟨by kernel_rfl⟩
instance :Fun prog 88:=⟨by kernel_rfl⟩
instance :Fun prog 89:=⟨by kernel_rfl⟩
instance :Fun prog 90:=⟨by kernel_rfl⟩
instance :Fun prog 91:=⟨by kernel_rfl⟩
instance :Fun prog 100:=⟨by kernel_rfl⟩
instance :Fun prog 102:=⟨by kernel_rfl⟩
instance :Fun prog 104:=⟨by kernel_rfl⟩
instance :Fun prog 105:=⟨by kernel_rfl⟩
instance :Fun prog 107:=⟨by kernel_rfl⟩
instance :Fun prog 109:=⟨by kernel_rfl⟩
instance :Fun prog 110:=⟨by kernel_rfl⟩
instance :Fun prog 111:=⟨by kernel_rfl⟩
instance :Fun prog 112:=⟨by kernel_rfl⟩
instance :Fun prog 113:=⟨by kernel_rfl⟩
instance :Fun prog 116:=⟨by kernel_rfl⟩
instance :Fun prog 118:=⟨by kernel_rfl⟩
instance :Fun prog 119:=⟨by kernel_rfl⟩
instance :Fun prog 120:=⟨by kernel_rfl⟩
instance :Fun prog 122:=⟨by kernel_rfl⟩
instance :Fun prog 123:=⟨by kernel_rfl⟩
instance :Fun prog 124:=⟨by kernel_rfl⟩
instance :Fun prog 125:=⟨by kernel_rfl⟩
instance :Fun prog 126:=⟨by kernel_rfl⟩
instance :Fun prog 127:=⟨by kernel_rfl⟩
instance :Fun prog 128:=⟨by kernel_rfl⟩
instance :Fun prog 129:=⟨by kernel_rfl⟩
instance :Fun prog 130:=⟨by kernel_rfl⟩
instance :Fun prog 131:=⟨by kernel_rfl⟩
instance :Fun prog 132:=⟨by kernel_rfl⟩
instance :Fun prog 133:=⟨by kernel_rfl⟩
instance :Fun prog 134:=⟨by kernel_rfl⟩
instance :Fun prog 136:=⟨by kernel_rfl⟩
instance :Fun prog 141:=⟨by kernel_rfl⟩
instance :Fun prog 154:=⟨by kernel_rfl⟩
instance :Fun prog 155:=⟨by kernel_rfl⟩
instance :Fun prog 156:=⟨by kernel_rfl⟩
instance :Fun prog 157:=⟨by kernel_rfl⟩
instance :Fun prog 158:=⟨by kernel_rfl⟩
instance :Fun prog 159:=⟨by kernel_rfl⟩
instance :Fun prog 160:=⟨by kernel_rfl⟩
instance :Fun prog 161:=⟨by kernel_rfl⟩
instance :Fun prog 166:=⟨by kernel_rfl⟩
instance :Fun prog 167:=⟨by kernel_rfl⟩
instance :Fun prog 168:=⟨by kernel_rfl⟩
instance :Fun prog 169:=⟨by kernel_rfl⟩
instance :Fun prog 172:=⟨by kernel_rfl⟩
instance :Fun prog 173:=⟨by kernel_rfl⟩
instance :Fun prog 174:=⟨by kernel_rfl⟩
instance :Fun prog 175:=⟨by kernel_rfl⟩
instance :Fun prog 176:=⟨by kernel_rfl⟩
instance :Fun prog 177:=⟨by kernel_rfl⟩
instance :Fun prog 178:=⟨by kernel_rfl⟩
instance :Fun prog 179:=⟨by kernel_rfl⟩
instance :Fun prog 180:=⟨by kernel_rfl⟩
instance :Fun prog 181:=⟨by kernel_rfl⟩
instance :Fun prog 182:=⟨by kernel_rfl⟩
instance :Fun prog 183:=⟨by kernel_rfl⟩
instance :Fun prog 184:=⟨by kernel_rfl⟩
instance :Fun prog 185:=⟨by kernel_rfl⟩
instance :Fun prog 187:=⟨by kernel_rfl⟩
instance :Fun prog 188:=⟨by kernel_rfl⟩
instance :Fun prog 191:=⟨by kernel_rfl⟩
instance :Fun prog 192:=⟨by kernel_rfl⟩
instance :Fun prog 193:=⟨by kernel_rfl⟩
instance :Fun prog 194:=⟨by kernel_rfl⟩
instance :Fun prog 195:=⟨by kernel_rfl⟩
instance :Fun prog 196:=⟨by kernel_rfl⟩
instance :Fun prog 215:=⟨by kernel_rfl⟩
instance :Fun prog 216:=⟨by kernel_rfl⟩
instance :Fun prog 217:=⟨by kernel_rfl⟩
instance :Fun prog 218:=⟨by kernel_rfl⟩
instance :Fun prog 219:=⟨by kernel_rfl⟩
instance :Fun prog 220:=⟨by kernel_rfl⟩
instance :Fun prog 221:=⟨by kernel_rfl⟩
instance :Fun prog 222:=⟨by kernel_rfl⟩
instance :Fun prog 223:=⟨by kernel_rfl⟩
instance :Fun prog 226:=⟨by kernel_rfl⟩
instance :Fun prog 227:=⟨by kernel_rfl⟩
instance :Fun prog 229:=⟨by kernel_rfl⟩
instance :Fun prog 230:=⟨by kernel_rfl⟩
instance :Fun prog 231:=⟨by kernel_rfl⟩
instance :Fun prog 232:=⟨by kernel_rfl⟩
instance :Fun prog 233:=⟨by kernel_rfl⟩
instance :Fun prog 234:=⟨by kernel_rfl⟩
instance :Fun prog 235:=⟨by kernel_rfl⟩
instance :Fun prog 236:=⟨by kernel_rfl⟩
instance :Fun prog 237:=⟨by kernel_rfl⟩
instance :Fun prog 240:=⟨by kernel_rfl⟩
instance :Fun prog 241:=⟨by kernel_rfl⟩
instance :Fun prog 242:=⟨by kernel_rfl⟩
instance :Fun prog 243:=⟨by kernel_rfl⟩
instance :Fun prog 244:=⟨by kernel_rfl⟩
instance :Fun prog 246:=⟨by kernel_rfl⟩
instance :Fun prog 247:=⟨by kernel_rfl⟩
instance :Fun prog 248:=⟨by kernel_rfl⟩
instance :Fun prog 254:=⟨by kernel_rfl⟩
instance :Fun prog 255:=⟨by kernel_rfl⟩
instance :Fun prog 256:=⟨by kernel_rfl⟩
instance :Fun prog 257:=⟨by kernel_rfl⟩
instance :Fun prog 258:=⟨by kernel_rfl⟩
instance :Fun prog 262:=⟨by kernel_rfl⟩
instance :Fun prog 264:=⟨by kernel_rfl⟩
instance :Fun prog 265:=⟨by kernel_rfl⟩
instance :Fun prog 266:=⟨by kernel_rfl⟩
instance :Fun prog 267:=⟨by kernel_rfl⟩
instance :Fun prog 268:=⟨by kernel_rfl⟩
instance :Fun prog 280:=⟨by kernel_rfl⟩
end Go.Proofs.YtbgnigjfkbmceaaGreatDoor
namespace Go.Proofs.YtbgnigjfkbmceaaGreatDoor
abbrev AG:=ByteArray
abbrev AA:=Int×Int
abbrev BF:=AG×Int
abbrev D8:=Int×AA
abbrev Kf:=AA×AG×AA×AA
structure Nod where
 ino:Int
 kind:Int
 mode:Int
 uid:Int
 gid:Int
 parent:Int
 target:AG
 entries:List BF
structure Dvc where
 next:Int
 nodes:List Nod
abbrev AZ:=List Dvc
structure Spc where
 files:AZ
 mounts:List D8
def Nod.zero:Nod:=⟨0,0,0,0,0,0,⟨#[]⟩,[]⟩
def J2{α:Type}(p:α→Bool)(l:List α):Int:=
 match l.findIdx? p with
 |some i=>(i:Int)
 |none=> -1
def Ey{α:Type}(l:List α)(i:Int):Option α:=if i<0 then none else l[i.toNat]?
theorem J3{α:Type}(l:List α)(k:Nat):Ey l (k:Int)=l[k]?:=by
 simp[Ey,show¬((k:Int)<0) by omega]
theorem MZ{α:Type}{l:List α}{i:Int}(h:i<0∨(l.length:Int)≤i):Ey l i=none:=by
 unfold Ey;split
 ·rfl
 rw[List.getElem?_eq_none];omega
theorem Vj{α:Type}{l:List α}{i:Int}{x:α}(h:Ey l i=some x):0≤i∧i<l.length∧l[i.toNat]?=some x:=by
 unfold Ey at h;split at h
 ·cases h
 have:=(Ah.1 h).1;exact⟨by omega,by omega,h⟩
theorem RJ{α:Type}{p:α→Bool}{l:List α}{m:Nat}{x:α}(hx:l[m]?=some x)(hp:p x=true)(h:∀j y,j<m→l[j]?=some y→p y=false):l.findIdx? p=some m:=by
 have hl:m<l.length:=(Ah.1 hx).1;rw[List.findIdx?_eq_some_iff_getElem];refine⟨hl,by rw[(Ah.1 hx).2];exact hp,fun j hj=>?_⟩;have:=h j l[j] hj (BR _);simp[this]
theorem RK{α:Type}{p:α→Bool}{l:List α}{m:Nat}{x:α}(hx:l[m]?=some x)(hp:p x=true)(h:∀j y,j<m→l[j]?=some y→p y=false):J2 p l=m:=by
 unfold J2;rw[RJ hx hp h]
theorem Vk{α:Type}{p:α→Bool}{l:List α}(h:∀j y,j<l.length→l[j]?=some y→p y=false):J2 p l= -1:=by
 unfold J2;rw[List.findIdx?_eq_none_iff.2];intro x hx;obtain⟨j,hj,rfl⟩:=List.mem_iff_getElem.1 hx;exact h j _ hj (BR hj)
theorem FO{α:Type}{P:α→Prop}{l:List α}{m:Nat}{x:α}(hx:l[m]?=some x)(h:∀j y,j<m→l[j]?=some y→P y)(hp:P x):∀j y,j<m+1→l[j]?=some y→P y:=by
 intro j y hj hy;by_cases e:j=m
 ·subst e;rw[hx]at hy;cases hy;exact hp
 exact h j y (by omega) hy
def ED(f:AZ)(at_:AA):Int:=
 match Ey f at_.1 with
 |none=> -1
 |some d=>J2 (fun n:Nod=>n.ino==at_.2) d.nodes
def Bk(f:AZ)(at_:AA):Option Nod:=
 match Ey f at_.1 with
 |none=>none
 |some d=>d.nodes.find? (fun n:Nod=>n.ino==at_.2)
theorem RL{α:Type}{p:α→Bool}{l:List α}:(l.findIdx? p).bind (fun i=>l[i]?)=l.find? p:=by
 cases h:l.findIdx? p with
 |none=>
   rw[List.findIdx?_eq_none_iff]at h;simp only[Option.bind_none];exact(List.find?_eq_none.2 (fun x hx=>by simp[h x hx])).symm
 |some i=>
   obtain⟨hi,hp,hf⟩:=List.findIdx?_eq_some_iff_getElem.1 h;simp only[Option.bind_some,BR hi];exact(List.find?_eq_some_iff_getElem.2 ⟨hp,i,hi,rfl,fun j hj=>by simpa using hf j hj⟩).symm
theorem GP(f:AZ)(at_:AA):(ED f at_= -1∧Bk f at_=none)∨
    ∃(k i:Nat) (d:Dvc) (n:Nod),at_.1=k∧f[k]?=some d∧d.nodes[i]?=some n∧n.ino=at_.2∧ED f at_=i∧Bk f at_=some n:=by
 unfold ED Bk
 cases h:Ey f at_.1 with
 |none=>exact .inl ⟨rfl,rfl⟩
 |some d=>
   obtain⟨h0,h1,h2⟩:=Vj h;simp only[←RL];unfold J2
   cases hi:d.nodes.findIdx? (fun n:Nod=>n.ino==at_.2)with
   |none=>exact .inl ⟨rfl,rfl⟩
   |some i=>
     obtain⟨hl,hp,_⟩:=List.findIdx?_eq_some_iff_getElem.1 hi;exact .inr ⟨at_.1.toNat,i,d,d.nodes[i],by omega,h2,BR hl,by simpa using hp,rfl,by simp⟩
theorem Ma(a b:AG):(a.toList==b.toList)=decide (a=b):=by
 rw[ByteArray.toList_eq,ByteArray.toList_eq,Bool.eq_iff_iff];simp only[beq_iff_eq,decide_eq_true_eq];constructor
 ·intro h
  cases a with
  |mk a=>
    cases b with
    |mk b=>exact congrArg ByteArray.mk (Array.toList_inj.1 h)
 intro h;rw[h]
def GQ(c:UInt8):Bool:= !((c.toNat:Int)==0)&& !((c.toNat:Int)==47)
def Cn(s:AG):Bool:=
 if s.size<1∨12<s.size then false else if(s.toList==[46])=true then false else if(s.toList==[46,46])=true then false else s.data.toList.all GQ
def J4(s:AG):Bool:=s.data.toList.all (fun c=> !((c.toNat:Int)==0))&&decide (1≤s.size)&&decide (s.size≤128)
theorem RM{p:UInt8→Bool}{s:AG}(h:∀j (hj:j<s.size),p s[j]=true):s.data.toList.all p=true:=by
 rw[List.all_eq_true];intro c hc;obtain⟨j,hj,rfl⟩:=List.mem_iff_getElem.1 hc;exact h j (by simpa using hj)
theorem OO{p:UInt8→Bool}{s:AG}{j:Nat}(hj:j<s.size)(h:p s[j]=false):s.data.toList.all p=false:=by
 rw[List.all_eq_false];refine⟨s[j],?_,by simp[h]⟩;have:s[j]=s.data.toList[j]'(by simpa using hj):=rfl;rw[this];exact List.getElem_mem _
theorem RN{p:UInt8→Bool}{s:AG}{m:Nat}(hm:m<s.size)(h:∀j (hj:j<s.size),j<m→p s[j]=true)(hp:p s[m]=true):∀j (hj:j<s.size),j<m+1→p s[j]=true:=by
 intro j hj hlt;by_cases e:j=m
 ·subst e;exact hp
 exact h j hj (by omega)
def Am(f:AZ)(at_:AA):Bool:=
 match Bk f at_ with
 |none=>false
 |some n=>n.kind==2
def CB(f:AZ)(dir:AA)(name:AG):Int:=
 match Bk f dir with
 |none=>2
 |some n=>if n.kind=2 then(if Cn name then 0 else 22)else 20
def GR(f:AZ)(dir:AA):Bool:=
 match Bk f dir with
 |none=>false
 |some n=>decide (12≤n.entries.length)
def Gx(f:AZ)(dir:AA):Bool:=
 match Bk f dir with
 |none=>true
 |some n=>decide (n.entries.length=0)
def AO(f:AZ)(dir:AA)(name:AG):AA×Int:=
 match Bk f dir with
 |none=>((0,0),2)
 |some n=>if n.kind=2 then
     match n.entries.find? (fun e:BF=>decide (e.1=name))with
     |none=>((0,0),2)
     |some e=>((dir.1,e.2),0)
   else((0,0),20)
def E1(n:Nod):Bool:=
 if n.kind<1∨3<n.kind∨n.mode<0∨511<n.mode∨n.uid<0∨4294967295<n.uid∨n.gid<0∨4294967295<n.gid then false
 else if n.kind=3 then J4 n.target else n.target.toList.isEmpty
end Go.Proofs.YtbgnigjfkbmceaaGreatDoor
namespace Go.Proofs.YtbgnigjfkbmceaaGreatDoor
def E2(a b:AG):Bool:=Op.bytesLess a.toList b.toList
def Ec(name:AG)(ino:Int):Bool→List BF→List BF
 |done,[]=>if done then[]else[(name,ino)]
 |done,e::r=>
   (if !done&& !E2 e.1 name then[(name,ino)]else[])++((if e.1=name then[]else[e])++Ec name ino (done|| !E2 e.1 name) r)
def CL(es:List BF)(name:AG)(ino:Int):List BF:=Ec name ino (ino==0) es
def CT(ino:Int)(es:List BF):Nat:=es.countP fun e:BF=>e.2==ino
def BX(ino:Int)(ns:List Nod):Nat:=CT ino (ns.flatMap fun n=>n.entries)
def FP(f:AZ)(at_:AA):Nat:=
 match Bk f at_,Ey f at_.1 with
 |some _,some d=>BX at_.2 d.nodes
 |_,_=>0
theorem Mb{ino:Int}{es:List BF}{k:Nat}{e:BF}(h:es[k]?=some e):CT ino (es.take (k+1))=CT ino (es.take k)+(if e.2==ino then 1 else 0):=by
 unfold CT;rw[List.take_add_one,h,List.countP_append];simp[List.countP_cons]
theorem Vl(ino:Int)(es:List BF):CT ino es≤es.length:=List.countP_le_length
theorem Vm{ino:Int}{ns:List Nod}{m:Nat}{n:Nod}(h:ns[m]?=some n):BX ino (ns.take (m+1))=BX ino (ns.take m)+CT ino n.entries:=by
 unfold BX CT;rw[List.take_add_one,h,List.flatMap_append,List.countP_append];simp
def CU(ino:Int)(ns:List Nod):List Nod:=ns.filter fun n=>n.ino != ino
def Mc:Nod:=⟨1,2,493,0,0,1,⟨#[]⟩,[]⟩
def JY:Dvc:=⟨2,[Mc]⟩
def Dq(n:Int):AZ×Int:=if n<1∨3<n then([],50)else(List.replicate n.toNat JY,0)
abbrev J5:=AZ×List Kf×Int
def Dk(n:Nod)(next dirIno:Int):Nod:=⟨next,n.kind,n.mode,n.uid,n.gid,if n.kind=2 then dirIno else 0,n.target,[]⟩
end Go.Proofs.YtbgnigjfkbmceaaGreatDoor
namespace Go.Proofs.YtbgnigjfkbmceaaGreatDoor
open Go.RowKit
theorem Bv{α:Type}(enc:α→List AV){l:List α}{k:Nat}(h:(k:Int)<((l.map enc).length:Int)):k<l.length∧∃x,l[k]?=some x∧(l.map enc)[k]?=some (enc x)∧(l.take (k+1)).map enc=(l.take k).map enc++[enc x]:=by
 have hk:k<l.length:=by simpa using h
 refine⟨hk,l[k],BR hk,by simp[hk],?_⟩;rw[List.take_succ_eq_append_getElem hk,List.map_append];rfl
theorem CM{α:Type}(enc:α→List AV){l:List α}{k:Nat}(hk:k≤l.length)(h:¬(k:Int)<((l.map enc).length:Int)):k=l.length:=by
 simp at h;omega
theorem vb{a b:Bool}(h:a=b):AV.v (.bool a)=AV.v (.bool b):=by rw[h]
theorem vi{k:IntKind}{a b:Int}(h:a=b):AV.v (.int k a)=AV.v (.int k b):=by rw[h]
def AD(x:AA):List AV:=[.v (.int .i64 x.1), .v (.int .i64 x.2)]
def CC(e:BF):List AV:=[.v (.string e.1), .v (.int .i64 e.2)]
def Ak(n:Nod):List AV:=[.v (.int .i64 n.ino), .v (.int .i64 n.kind), .v (.int .i64 n.mode), .v (.int .i64 n.uid), .v (.int .i64 n.gid), .v (.int .i64 n.parent), .v (.string n.target), .sl 2 (n.entries.map CC) none]
def Bi(d:Dvc):List AV:=[.v (.int .i64 d.next), .sl 8 (d.nodes.map Ak) none]
def Aq(f:AZ):List AV:=[.sl 2 (f.map Bi) none]
structure FlsB(f:AZ):Prop where
 few:f.length≤1000
 nodes:∀d∈f,d.nodes.length≤1000
 ents:∀d∈f,∀n∈d.nodes,n.entries.length≤1000
theorem OP{f:AZ}{a:AA}{k:Nat}{d:Dvc}(hk:a.1=(k:Int))(hd:f[k]?=some d):ED f a=J2 (fun n:Nod=>n.ino==a.2) d.nodes:=by
 unfold ED;rw[hk,J3,hd]
def As(f:AZ)(a:AA):Nod:=(Bk f a).getD Nod.zero
def Cg(f:AZ)(a:AA):Bool:=(Bk f a).isSome
theorem FQ(f:AZ)(a:AA):Am f a=(Cg f a&&decide ((As f a).kind=2)):=by
 unfold Am Cg As;cases Bk f a<;>simp[Nx]
theorem Kg{f:AZ}(hf:FlsB f)(a:AA):(As f a).entries.length≤1000:=by
 rcases GP f a with⟨-,h⟩|⟨k,i,d,n, -,h1,h2, -, -,h⟩
 ·simp[As,h,Nod.zero]
 simp only[As,h,Option.getD_some];exact hf.ents d (Ar h1) n (Ar h2)
section
theorem Gy(f:AZ)(a:AA)(hf:FlsB f):AFn prog 179 [.agg (Aq f), .agg (AD a)] (fun r=>r= .v (.int .i64 (ED f a))):=by
 refine enter Tryz.func179 rfl rfl rfl rfl rfl 0 rfl ?_;refine w_ (b_ (h:=b_ (h:=a_ (h:=e_ (q_ (w_ (f_ (h:=l_ (h:=B1 (h:=m_ (h:=?_)))))))))));refine AR false rfl rfl (fun hb1=>?_) (fun hb1=>?_)
 ·have hc1:=bp hb1;refine A3 (h:=A3 (h:=A3 (h:=A3 (h:=A3 (h:=A3 (h:=AB (h:=e_ (B2 (h:=w_ (a_ (h:=e_ (A4 (A7 (?_))))))))))))));refine A8 ?_;exact vi (by unfold ED;rw[MZ (.inl hc1)])
 have hc1:=bp hb1;refine f_ (h:=l_ (h:=f_ (h:=l_ (h:=n_ (h:=DL (h:=AF (h:=e_ (?_))))))));refine A9 rfl (fun hb2=>?_) (fun hb2=>?_)
 ·have hc2:=bp hb2;refine w_ (a_ (h:=e_ (A4 (A7 (?_)))));refine A8 ?_;exact vi (by unfold ED;rw[MZ (.inr (by rw[List.length_map]at hc2;exact hc2))])
 have hc2:=bp hb2;obtain⟨k,hk⟩:=Int.eq_ofNat_of_zero_le (show 0≤a.1 by omega);rw[hk]at hc2;obtain⟨-,d,hd,hrow, -⟩:=Bv Bi (l:=f) (k:=k) (by omega);have hdn:=hf.nodes d (Ar hd);refine AE (w_ (f_ (h:=l_ (h:=f_ (h:=l_ (h:=?_))))));refine A6 rfl (DV (n:=k) rfl rfl hk hrow ?_);refine f_ (h:=l_ (h:=a_ (h:=e_ (q_ (w_ (a_ (h:=e_ (Af (?_)))))))));refine BW (fun m s=>∃j:Nat,j≤d.nodes.length∧m=d.nodes.length - j∧(∀i y,i<j→d.nodes[i]?=some y→(y.ino==a.2)=false)∧s=⟨look [(3, .bp 1 0),(5, .sl 8 (d.nodes.map Ak) none),(6, .v (.int .i64 (j:Int)))],⟨[Aq f,AD a],[]⟩⟩) (d.nodes.length) ((wk 2 0)) (⟨0,by omega,rfl,fun i y hi=>by omega,rfl⟩) ?_;rintro m s ⟨j,hj,rfl,ha,rfl⟩;refine q_ (w_ (m_ (h:=m_ (h:=n_ (h:=B1 (h:=e_ (?_)))))));refine A9 rfl (fun hb3=>?_) (fun hb3=>?_)
 ·have hc3:=bp hb3;obtain⟨hlt,n,hy,hrow2, -⟩:=Bv Ak hc3;refine AE (q_ (Af (q_ (D7 8 (h:=Ap 0 (h:=Ap 1 (h:=Dc 2 (h:=Ay 3 (h:=AY 4 (h:=Ay 5 (h:=AY 6 (h:=Gv 7 (h:=z_ (h:=t_ (?_)))))))))))))));refine A9 rfl (fun hb4=>?_) (fun hb4=>?_)
  ·have hc4:=bp hb4;refine w_ (m_ (h:=a_ (h:=e_ (A4 (AP (A7 (A7 (AP (A7 (?_))))))))));refine A8 ?_;exact vi (by rw[OP hk hd];exact(RK hy (by simpa using hc4) ha).symm)
  have hc4:=bp hb4;refine Aw (Al (t_ (AW (m_ (h:=BE (h:=a_ (h:=AQ (?_))))))));refine AK ?_;refine⟨_,_,?_,⟨j+1,by omega,rfl,FO hy ha (by simpa using hc4),rfl⟩,(wk 2 0)⟩;omega
 have hc3:=bp hb3;have e:=CM Ak hj hc3;subst e;refine BL (Ai (Ai (BM (t_ (w_ (a_ (h:=e_ (A4 (?_)))))))));refine A8 ?_;exact vi (by rw[OP hk hd];exact(Vk (fun i y hi hy=>ha i y hi hy)).symm)
theorem Ed(f:AZ)(a:AA)(hf:FlsB f):AFn prog 123 [.agg (Aq f), .agg (AD a)] (fun r=>r= .tup [.agg (Ak (As f a)), .v (.bool (Cg f a))]):=by
 refine enter Tryz.func123 rfl rfl rfl rfl rfl 0 rfl ?_;refine w_ (b_ (h:=b_ (h:=Ac (h:=a_ (h:=e_ (w_ (l_ (h:=l_ (h:=?_)))))))));refine A6 rfl (AJ (Gy f a hf) ?_);rintro r rfl;refine a_ (h:=e_ (q_ (w_ (m_ (h:=B1 (h:=e_ (?_)))))));refine A9 rfl (fun hb1=>?_) (fun hb1=>?_)
 ·have hc1:=bp hb1
  have e:Bk f a=none:=by
   rcases GP f a with h|⟨k,i,d,n, -, -, -, -,h, -⟩
   ·exact h.2
   exfalso;omega
  refine w_ (Ab (h:=s_ (h:=a_ (h:=e_ (A4 (A7 (?_)))))));refine Au (r:= .tup [.agg (Ak (As f a)), .v (.bool (Cg f a))]) none (h5:=?_) (h6:=⟨rfl,rfl,rfl⟩);rw[show As f a=Nod.zero by simp[As,e],show Cg f a=false by simp[Cg,e]];exact(by repeat (first|exact AX _|exact LeA.nil _|exact LeL.refl _|refine LeA.agg ?_|refine LeA.tup ?_|exact LeL.nil|refine LeL.cons ?_ ?_|exact LeA.any _))
 have hc1:=bp hb1;obtain⟨k,i,d,n,g1,g2,g3,g4,g5,g6⟩:=(GP f a).resolve_left (fun h=>by omega);rw[g5];have hr1:(f.map Bi)[k]?=some (Bi d):=by rw[List.getElem?_map,g2];rfl
 have hr2:(d.nodes.map Ak)[i]?=some (Ak n):=by rw[List.getElem?_map,g3];rfl
 have hen:=hf.ents d (Ar g2) n (Ar g3);refine AE (w_ (f_ (h:=l_ (h:=f_ (h:=l_ (h:=?_))))));refine A6 rfl (DV (n:=k) rfl rfl g1 hr1 ?_);refine f_ (h:=l_ (h:=m_ (h:=?_)));refine A6 rfl (DV (n:=i) rfl rfl rfl hr2 ?_);refine l_ (h:=Ac (h:=s_ (h:=e_ (w_ (f_ (h:=l_ (h:=?_)))))))
 first|refine A6 rfl (E7 rfl rfl rfl (by simp;omega) (by repeat constructor) ?_)|refine A6 rfl (E8 rfl rfl (by simp;omega) (by repeat constructor) ?_)
 refine f_ (h:=s_ (h:=e_ (w_ (l_ (h:=s_ (h:=a_ (h:=e_ (A4 (?_)))))))));refine A8 ?_;rw[show As f a=n by simp[As,g6],show Cg f a=true by simp[Cg,g6]];rfl
theorem GS(f:AZ)(a:AA)(hf:FlsB f):AFn prog 185 [.agg (Aq f), .agg (AD a)] (fun r=>r= .v (.bool (Am f a))):=by
 refine enter Tryz.func185 rfl rfl rfl rfl rfl 0 rfl ?_;refine w_ (b_ (h:=b_ (h:=a_ (h:=e_ (w_ (l_ (h:=l_ (h:=?_))))))));refine A6 rfl (AJ (Ed f a hf) ?_);rintro r rfl;refine m_ (h:=x_ (h:=x_ (h:=Ac (h:=s_ (h:=a_ (h:=e_ (w_ (m_ (h:=m_ (h:=?_))))))))));refine AR true rfl rfl (fun hb1=>?_) (fun hb1=>?_)
 ·have hc1:=bp hb1;refine f_ (h:=l_ (h:=AN (h:=AB (h:=a_ (h:=e_ (A4 (?_)))))));refine A8 ?_;exact vb (by rw[FQ];simp[*])
 have hc1:=bp hb1;refine A3 (h:=A3 (h:=A3 (h:=AF (h:=a_ (h:=e_ (A4 (?_)))))));refine A8 ?_;exact vb (by rw[FQ];simp[*])
end
end Go.Proofs.YtbgnigjfkbmceaaGreatDoor
namespace Go.Proofs.YtbgnigjfkbmceaaGreatDoor
structure Tst where
 fld:Int
 op:Int
 num:Int
 text:AG
 other:Int
structure Rul where
 list:Int
 action:Int
 calls:Int
 tests:List Tst
 watch:Int
 path:AG
 perm:Int
 key:AG
structure Itm where
 given:AG
 path:AG
 dir:AA
 name:AG
 file:AA
 role:Int
 kind:Int
 mode:Int
 uid:Int
 gid:Int
 perm:Int
structure Ctx where
 phase:Int
 pid:Int
 ppid:Int
 uid:Int
 euid:Int
 gid:Int
 egid:Int
 auid:Int
 ses:Int
 cwd:AA
 comm:AG
 exe:AG
 audited:Bool
 number:Int
 a0:Int
 a1:Int
 a2:Int
 a3:Int
 ext:Int
 items:List Itm
 typ:Int
def Itm.zero:Itm:=⟨⟨#[]⟩,⟨#[]⟩,(0,0),⟨#[]⟩,(0,0),0,0,0,0,0,0⟩
def C6(f:Int):Bool:=decide (1≤f∧f≤8∨f=13∨f=14)
def D9(list f:Int):Bool:=
 if list=1∨list=4 then C6 f
 else if list=2 then decide (1≤f∧f≤14)
 else if list=3 then decide (1≤f∧f≤21)
 else if list=5 then decide (1≤f∧f≤8∨f=13∨f=14∨f=22)
 else false
def D0(f:Int):Bool:=decide (f=13∨f=14)
def DA(f:Int):Bool:=decide (f=3∨f=4∨f=5∨f=6∨f=7∨f=19∨f=20)
def Fd(f:Int):Bool:=decide (17≤f∧f≤21)
def BQ(t:Tst)(list:Int):Int:=
 if D9 list t.fld=false∨t.other≠0∧(D9 list t.other=false∨DA t.fld=false∨DA t.other=false)then 120
 else if t.op<1∨8<t.op∨2<t.op∧(D0 t.fld=true∨t.other≠0)then 121
 else if t.other≠0∧(t.num≠0∨t.text.size≠0)then 122
 else if D0 t.fld=true∧(t.num≠0∨t.text.size=0∨640<t.text.size)then 122
 else if D0 t.fld=false∧t.text.size≠0 then 122
 else 0
def Cd(f:Int)(c:Ctx)(y:Itm):Int:=
 if f=1 then c.pid else if f=2 then c.ppid else if f=3 then c.uid else if f=4 then c.euid else if f=5 then c.gid else if f=6 then c.egid
 else if f=7 then c.auid else if f=8 then c.ses else if f=9 then c.a0 else if f=10 then c.a1 else if f=11 then c.a2 else if f=12 then c.a3
 else if f=15 then c.ext else if f=16 then(if 0≤c.ext then 1 else 0)else if f=17 then y.file.2 else if f=18 then y.file.1
 else if f=19 then y.uid else if f=20 then y.gid else if f=21 then y.kind else c.typ
def Bc(f:Int)(c:Ctx):Bool:=
 if 1≤f∧f≤12 then true else if f=22 then decide (c.typ≠0)else if 15≤f∧f≤21 then decide (c.phase=2)else false
def Ez(f:Int)(c:Ctx):Bool:=
 if 15≤f∧f≤21 then decide (c.phase=2)else decide (f≠22∨c.typ≠0)
end Go.Proofs.YtbgnigjfkbmceaaGreatDoor
namespace Go.Proofs.YtbgnigjfkbmceaaGreatDoor
open Go.RowKit
def CF(t:Tst):List AV:=[.v (.int .i64 t.fld), .v (.int .i64 t.op), .v (.int .i64 t.num), .v (.string t.text), .v (.int .i64 t.other)]
def Aa(r:Rul):List AV:=[.v (.int .i64 r.list), .v (.int .i64 r.action), .v (.int .u64 r.calls), .sl 5 (r.tests.map CF) none, .v (.int .i64 r.watch), .v (.string r.path), .v (.int .i64 r.perm), .v (.string r.key)]
def DW(y:Itm):List AV:=[.v (.string y.given), .v (.string y.path), .v (.int .i64 y.dir.1), .v (.int .i64 y.dir.2), .v (.string y.name), .v (.int .i64 y.file.1), .v (.int .i64 y.file.2), .v (.int .i64 y.role), .v (.int .i64 y.kind), .v (.int .i64 y.mode), .v (.int .i64 y.uid), .v (.int .i64 y.gid), .v (.int .i64 y.perm)]
structure Cxs where
 os:List (List AV)
 ps:List (List AV)
 rs:List (List AV)
def DX(c:Ctx)(k:Cxs):List AV:=[.v (.int .i64 c.phase), .v (.int .i64 c.pid), .v (.int .i64 c.ppid), .v (.int .i64 c.uid), .v (.int .i64 c.euid), .v (.int .i64 c.gid), .v (.int .i64 c.egid), .v (.int .i64 c.auid), .v (.int .i64 c.ses), .v (.int .i64 c.cwd.1), .v (.int .i64 c.cwd.2), .v (.string c.comm), .v (.string c.exe), .sl 4 k.os none, .v (.bool c.audited),
 .v (.int .i64 c.number), .v (.int .i64 c.a0), .v (.int .i64 c.a1), .v (.int .i64 c.a2), .v (.int .i64 c.a3), .sl 1 k.ps none, .sl 1 k.rs none, .v (.int .i64 c.ext), .sl 13 (c.items.map DW) none, .v (.int .i64 c.typ)]
section
theorem ET(f:Int):AFn prog 221 [.v (.int .i64 f)] (fun r=>r= .v (.bool (D0 f))):=by
 refine enter Tryz.func221 rfl rfl rfl rfl rfl 0 rfl ?_;refine w_ (a_ (h:=e_ (w_ (m_ (h:=AN (h:=m_ (h:=?_)))))));refine AR false rfl rfl (fun hb1=>?_) (fun hb1=>?_)
 ·have hc1:=bp hb1;refine A3 (h:=A3 (h:=AB (h:=a_ (h:=e_ (A4 (?_))))));refine A8 ?_;exact vb (by unfold D0;rw[Bool.eq_iff_iff];simp;try omega)
 have hc1:=bp hb1;refine m_ (h:=AN (h:=AF (h:=a_ (h:=e_ (A4 (?_))))));refine A8 ?_;exact vb (by unfold D0;rw[Bool.eq_iff_iff];simp;try omega)
theorem Gz(f:Int):AFn prog 217 [.v (.int .i64 f)] (fun r=>r= .v (.bool (D0 f))):=by
 refine enter Tryz.func217 rfl rfl rfl rfl rfl 0 rfl ?_;refine w_ (a_ (h:=e_ (w_ (m_ (h:=AN (h:=m_ (h:=?_)))))));refine AR false rfl rfl (fun hb1=>?_) (fun hb1=>?_)
 ·have hc1:=bp hb1;refine A3 (h:=A3 (h:=AB (h:=a_ (h:=e_ (A4 (?_))))));refine A8 ?_;exact vb (by unfold D0;rw[Bool.eq_iff_iff];simp;try omega)
 have hc1:=bp hb1;refine m_ (h:=AN (h:=AF (h:=a_ (h:=e_ (A4 (?_))))));refine A8 ?_;exact vb (by unfold D0;rw[Bool.eq_iff_iff];simp;try omega)
theorem RO(f:Int):AFn prog 160 [.v (.int .i64 f)] (fun r=>r= .v (.bool (Fd f))):=by
 refine enter Tryz.func160 rfl rfl rfl rfl rfl 0 rfl ?_;refine w_ (a_ (h:=e_ (w_ (m_ (h:=DL (h:=m_ (h:=?_)))))));refine AR true rfl rfl (fun hb1=>?_) (fun hb1=>?_)
 ·have hc1:=bp hb1;refine m_ (h:=EC (h:=AB (h:=a_ (h:=e_ (A4 (?_))))));refine A8 ?_;exact vb (by unfold Fd;rw[Bool.eq_iff_iff];simp;try omega)
 have hc1:=bp hb1;refine A3 (h:=A3 (h:=AF (h:=a_ (h:=e_ (A4 (?_))))));refine A8 ?_;exact vb (by unfold Fd;rw[Bool.eq_iff_iff];simp;try omega)
theorem RP(f:Int):AFn prog 220 [.v (.int .i64 f)] (fun r=>r= .v (.bool (DA f))):=by
 refine enter Tryz.func220 rfl rfl rfl rfl rfl 0 rfl ?_;refine w_ (a_ (h:=e_ (q_ (w_ (m_ (h:=e_ (Af (q_ (w_ (AN (h:=a_ (h:=e_ (?_)))))))))))));refine A9 rfl (fun hb1=>?_) (fun hb1=>?_)
 ·have hc1:=bp hb1;refine AE (B2 (h:=w_ (a_ (h:=e_ (A4 (AP (A7 (?_))))))));refine A8 ?_;exact vb (by unfold DA;rw[Bool.eq_iff_iff];simp;try omega)
 have hc1:=bp hb1;refine w_ (AN (h:=a_ (h:=e_ (?_))));refine A9 rfl (fun hb2=>?_) (fun hb2=>?_)
 ·have hc2:=bp hb2;refine AE (B2 (h:=w_ (a_ (h:=e_ (A4 (AP (A7 (?_))))))));refine A8 ?_;exact vb (by unfold DA;rw[Bool.eq_iff_iff];simp;try omega)
 have hc2:=bp hb2;refine w_ (AN (h:=a_ (h:=e_ (?_))));refine A9 rfl (fun hb3=>?_) (fun hb3=>?_)
 ·have hc3:=bp hb3;refine AE (B2 (h:=w_ (a_ (h:=e_ (A4 (AP (A7 (?_))))))));refine A8 ?_;exact vb (by unfold DA;rw[Bool.eq_iff_iff];simp;try omega)
 have hc3:=bp hb3;refine w_ (AN (h:=a_ (h:=e_ (?_))));refine A9 rfl (fun hb4=>?_) (fun hb4=>?_)
 ·have hc4:=bp hb4;refine AE (B2 (h:=w_ (a_ (h:=e_ (A4 (AP (A7 (?_))))))));refine A8 ?_;exact vb (by unfold DA;rw[Bool.eq_iff_iff];simp;try omega)
 have hc4:=bp hb4;refine w_ (AN (h:=a_ (h:=e_ (?_))));refine A9 rfl (fun hb5=>?_) (fun hb5=>?_)
 ·have hc5:=bp hb5;refine AE (B2 (h:=w_ (a_ (h:=e_ (A4 (AP (A7 (?_))))))));refine A8 ?_;exact vb (by unfold DA;rw[Bool.eq_iff_iff];simp;try omega)
 have hc5:=bp hb5;refine w_ (AN (h:=a_ (h:=e_ (?_))));refine A9 rfl (fun hb6=>?_) (fun hb6=>?_)
 ·have hc6:=bp hb6;refine AE (B2 (h:=w_ (a_ (h:=e_ (A4 (AP (A7 (?_))))))));refine A8 ?_;exact vb (by unfold DA;rw[Bool.eq_iff_iff];simp;try omega)
 have hc6:=bp hb6;refine AW (AN (h:=a_ (h:=e_ (?_))));refine A9 rfl (fun hb7=>?_) (fun hb7=>?_)
 ·have hc7:=bp hb7;refine w_ (a_ (h:=e_ (A4 (AP (A7 (?_))))));refine A8 ?_;exact vb (by unfold DA;rw[Bool.eq_iff_iff];simp;try omega)
 have hc7:=bp hb7;refine Aw (Al (t_ (w_ (a_ (h:=e_ (A4 (?_)))))));refine A8 ?_;exact vb (by unfold DA;rw[Bool.eq_iff_iff];simp;try omega)
theorem RQ(f:Int):AFn prog 216 [.v (.int .i64 f)] (fun r=>r= .v (.bool (DA f))):=by
 refine enter Tryz.func216 rfl rfl rfl rfl rfl 0 rfl ?_;refine w_ (a_ (h:=e_ (q_ (w_ (m_ (h:=e_ (Af (q_ (w_ (AN (h:=a_ (h:=e_ (?_)))))))))))));refine A9 rfl (fun hb1=>?_) (fun hb1=>?_)
 ·have hc1:=bp hb1;refine AE (B2 (h:=w_ (a_ (h:=e_ (A4 (AP (A7 (?_))))))));refine A8 ?_;exact vb (by unfold DA;rw[Bool.eq_iff_iff];simp;try omega)
 have hc1:=bp hb1;refine w_ (AN (h:=a_ (h:=e_ (?_))));refine A9 rfl (fun hb2=>?_) (fun hb2=>?_)
 ·have hc2:=bp hb2;refine AE (B2 (h:=w_ (a_ (h:=e_ (A4 (AP (A7 (?_))))))));refine A8 ?_;exact vb (by unfold DA;rw[Bool.eq_iff_iff];simp;try omega)
 have hc2:=bp hb2;refine w_ (AN (h:=a_ (h:=e_ (?_))));refine A9 rfl (fun hb3=>?_) (fun hb3=>?_)
 ·have hc3:=bp hb3;refine AE (B2 (h:=w_ (a_ (h:=e_ (A4 (AP (A7 (?_))))))));refine A8 ?_;exact vb (by unfold DA;rw[Bool.eq_iff_iff];simp;try omega)
 have hc3:=bp hb3;refine w_ (AN (h:=a_ (h:=e_ (?_))));refine A9 rfl (fun hb4=>?_) (fun hb4=>?_)
 ·have hc4:=bp hb4;refine AE (B2 (h:=w_ (a_ (h:=e_ (A4 (AP (A7 (?_))))))));refine A8 ?_;exact vb (by unfold DA;rw[Bool.eq_iff_iff];simp;try omega)
 have hc4:=bp hb4;refine w_ (AN (h:=a_ (h:=e_ (?_))));refine A9 rfl (fun hb5=>?_) (fun hb5=>?_)
 ·have hc5:=bp hb5;refine AE (B2 (h:=w_ (a_ (h:=e_ (A4 (AP (A7 (?_))))))));refine A8 ?_;exact vb (by unfold DA;rw[Bool.eq_iff_iff];simp;try omega)
 have hc5:=bp hb5;refine w_ (AN (h:=a_ (h:=e_ (?_))));refine A9 rfl (fun hb6=>?_) (fun hb6=>?_)
 ·have hc6:=bp hb6;refine AE (B2 (h:=w_ (a_ (h:=e_ (A4 (AP (A7 (?_))))))));refine A8 ?_;exact vb (by unfold DA;rw[Bool.eq_iff_iff];simp;try omega)
 have hc6:=bp hb6;refine AW (AN (h:=a_ (h:=e_ (?_))));refine A9 rfl (fun hb7=>?_) (fun hb7=>?_)
 ·have hc7:=bp hb7;refine w_ (a_ (h:=e_ (A4 (AP (A7 (?_))))));refine A8 ?_;exact vb (by unfold DA;rw[Bool.eq_iff_iff];simp;try omega)
 have hc7:=bp hb7;refine Aw (Al (t_ (w_ (a_ (h:=e_ (A4 (?_)))))));refine A8 ?_;exact vb (by unfold DA;rw[Bool.eq_iff_iff];simp;try omega)
theorem RR(list f:Int):AFn prog 219 [.v (.int .i64 list), .v (.int .i64 f)] (fun r=>r= .v (.bool (D9 list f))):=by
 refine enter Tryz.func219 rfl rfl rfl rfl rfl 0 rfl ?_;refine w_ (a_ (h:=e_ (?_)));refine EO (⟨look [(0, .v (.int .i64 list)),(1, .v (.int .i64 f)),(5, .v (.bool (C6 f)))],⟨[],[]⟩⟩) ?_ ?_
 ·skip
  refine AW (m_ (h:=DL (h:=m_ (h:=?_))));refine AR true rfl rfl (fun hb1=>?_) (fun hb1=>?_)
  ·have hc1:=bp hb1;refine m_ (h:=EC (h:=AB (h:=m_ (h:=?_))));refine AR false rfl rfl (fun hb2=>?_) (fun hb2=>?_)
   ·have hc2:=bp hb2;refine A3 (h:=A3 (h:=AB (h:=m_ (h:=A3 (h:=A3 (h:=AB (h:=a_ (h:=AQ (?_)))))))));refine AK ?_
    first|(exfalso;first|contradiction|omega)|exact Az 0 0 rfl rfl rfl rfl (by repeat (first|exact Sub.nil|refine B0 rfl rfl ?_|refine B3 ?_|refine B4 rfl ?_|refine B5 rfl ?_|(apply Sub.of;(focus exact rfl);(focus exact LeA.of_eq (vb (by unfold C6;rw[Bool.eq_iff_iff];simp;try omega)));(focus exact rfl))))
   have hc2:=bp hb2;refine m_ (h:=AN (h:=AF (h:=m_ (h:=?_))));refine AR false rfl rfl (fun hb3=>?_) (fun hb3=>?_)
   ·have hc3:=bp hb3;refine A3 (h:=A3 (h:=AB (h:=a_ (h:=AQ (?_)))));refine AK ?_
    first|(exfalso;first|contradiction|omega)|exact Az 0 0 rfl rfl rfl rfl (by repeat (first|exact Sub.nil|refine B0 rfl rfl ?_|refine B3 ?_|refine B4 rfl ?_|refine B5 rfl ?_|(apply Sub.of;(focus exact rfl);(focus exact LeA.of_eq (vb (by unfold C6;rw[Bool.eq_iff_iff];simp;try omega)));(focus exact rfl))))
   have hc3:=bp hb3;refine m_ (h:=AN (h:=AF (h:=a_ (h:=AQ (?_)))));refine AK ?_
   first|(exfalso;first|contradiction|omega)|exact Az 0 0 rfl rfl rfl rfl (by repeat (first|exact Sub.nil|refine B0 rfl rfl ?_|refine B3 ?_|refine B4 rfl ?_|refine B5 rfl ?_|(apply Sub.of;(focus exact rfl);(focus exact LeA.of_eq (vb (by unfold C6;rw[Bool.eq_iff_iff];simp;try omega)));(focus exact rfl))))
  have hc1:=bp hb1;refine A3 (h:=A3 (h:=AF (h:=m_ (h:=m_ (h:=AN (h:=AF (h:=m_ (h:=?_))))))));refine AR false rfl rfl (fun hb4=>?_) (fun hb4=>?_)
  ·have hc4:=bp hb4;refine A3 (h:=A3 (h:=AB (h:=a_ (h:=AQ (?_)))));refine AK ?_
   first|(exfalso;first|contradiction|omega)|exact Az 0 0 rfl rfl rfl rfl (by repeat (first|exact Sub.nil|refine B0 rfl rfl ?_|refine B3 ?_|refine B4 rfl ?_|refine B5 rfl ?_|(apply Sub.of;(focus exact rfl);(focus exact LeA.of_eq (vb (by unfold C6;rw[Bool.eq_iff_iff];simp;try omega)));(focus exact rfl))))
  have hc4:=bp hb4;refine m_ (h:=AN (h:=AF (h:=a_ (h:=AQ (?_)))));refine AK ?_
  first|(exfalso;first|contradiction|omega)|exact Az 0 0 rfl rfl rfl rfl (by repeat (first|exact Sub.nil|refine B0 rfl rfl ?_|refine B3 ?_|refine B4 rfl ?_|refine B5 rfl ?_|(apply Sub.of;(focus exact rfl);(focus exact LeA.of_eq (vb (by unfold C6;rw[Bool.eq_iff_iff];simp;try omega)));(focus exact rfl))))
 skip
 refine q_ (w_ (m_ (h:=e_ (Af (q_ (w_ (AN (h:=a_ (h:=e_ (?_))))))))));refine A9 rfl (fun hb5=>?_) (fun hb5=>?_)
 ·have hc5:=bp hb5;refine AE (B2 (h:=w_ (m_ (h:=a_ (h:=e_ (A4 (AP (A7 (?_)))))))));refine A8 ?_
  first|(exfalso;first|contradiction|omega)|(exact vb (by unfold D9;unfold C6 at *;simp only[*];(try rw[Bool.eq_iff_iff]);simp at *;try omega))
 have hc5:=bp hb5;refine AW (AN (h:=a_ (h:=e_ (?_))));refine A9 rfl (fun hb6=>?_) (fun hb6=>?_)
 ·have hc6:=bp hb6;refine w_ (m_ (h:=a_ (h:=e_ (A4 (AP (A7 (?_)))))));refine A8 ?_
  first|(exfalso;first|contradiction|omega)|(exact vb (by unfold D9;unfold C6 at *;simp only[*];(try rw[Bool.eq_iff_iff]);simp at *;try omega))
 have hc6:=bp hb6;refine w_ (AN (h:=a_ (h:=e_ (?_))));refine A9 rfl (fun hb7=>?_) (fun hb7=>?_)
 ·have hc7:=bp hb7;refine w_ (m_ (h:=DL (h:=m_ (h:=?_))));refine AR true rfl rfl (fun hb8=>?_) (fun hb8=>?_)
  ·have hc8:=bp hb8;refine m_ (h:=EC (h:=AB (h:=a_ (h:=e_ (A4 (AP (A7 (?_))))))));refine A8 ?_
   first|(exfalso;first|contradiction|omega)|(exact vb (by unfold D9;unfold C6 at *;simp only[*];(try rw[Bool.eq_iff_iff]);simp at *;try omega))
  have hc8:=bp hb8;refine A3 (h:=A3 (h:=AF (h:=a_ (h:=e_ (A4 (AP (A7 (?_))))))));refine A8 ?_
  first|(exfalso;first|contradiction|omega)|(exact vb (by unfold D9;unfold C6 at *;simp only[*];(try rw[Bool.eq_iff_iff]);simp at *;try omega))
 have hc7:=bp hb7;refine w_ (AN (h:=a_ (h:=e_ (?_))));refine A9 rfl (fun hb9=>?_) (fun hb9=>?_)
 ·have hc9:=bp hb9;refine w_ (m_ (h:=DL (h:=m_ (h:=?_))));refine AR true rfl rfl (fun hb10=>?_) (fun hb10=>?_)
  ·have hc10:=bp hb10;refine m_ (h:=EC (h:=AB (h:=a_ (h:=e_ (A4 (AP (A7 (?_))))))));refine A8 ?_
   first|(exfalso;first|contradiction|omega)|(exact vb (by unfold D9;unfold C6 at *;simp only[*];(try rw[Bool.eq_iff_iff]);simp at *;try omega))
  have hc10:=bp hb10;refine A3 (h:=A3 (h:=AF (h:=a_ (h:=e_ (A4 (AP (A7 (?_))))))));refine A8 ?_
  first|(exfalso;first|contradiction|omega)|(exact vb (by unfold D9;unfold C6 at *;simp only[*];(try rw[Bool.eq_iff_iff]);simp at *;try omega))
 have hc9:=bp hb9;refine w_ (AN (h:=a_ (h:=e_ (?_))));refine A9 rfl (fun hb11=>?_) (fun hb11=>?_)
 ·have hc11:=bp hb11;refine w_ (m_ (h:=m_ (h:=?_)));refine AR false rfl rfl (fun hb12=>?_) (fun hb12=>?_)
  ·have hc12:=bp hb12;refine A3 (h:=A3 (h:=AB (h:=a_ (h:=e_ (A4 (AP (A7 (?_))))))));refine A8 ?_
   first|(exfalso;first|contradiction|omega)|(exact vb (by unfold D9;unfold C6 at *;simp only[*];(try rw[Bool.eq_iff_iff]);simp at *;try omega))
  have hc12:=bp hb12;refine m_ (h:=AN (h:=AF (h:=a_ (h:=e_ (A4 (AP (A7 (?_))))))));refine A8 ?_
  first|(exfalso;first|contradiction|omega)|(exact vb (by unfold D9;unfold C6 at *;simp only[*];(try rw[Bool.eq_iff_iff]);simp at *;try omega))
 have hc11:=bp hb11;refine Aw (Al (t_ (w_ (a_ (h:=e_ (A4 (?_)))))));refine A8 ?_
 first|(exfalso;first|contradiction|omega)|(exact vb (by unfold D9;unfold C6 at *;simp only[*];(try rw[Bool.eq_iff_iff]);simp at *;try omega))
theorem RS(list f:Int):AFn prog 215 [.v (.int .i64 list), .v (.int .i64 f)] (fun r=>r= .v (.bool (D9 list f))):=by
 refine enter Tryz.func215 rfl rfl rfl rfl rfl 0 rfl ?_;refine w_ (a_ (h:=e_ (q_ (w_ (m_ (h:=B1 (h:=m_ (h:=?_))))))));refine AR false rfl rfl (fun hb1=>?_) (fun hb1=>?_)
 ·have hc1:=bp hb1;refine A3 (h:=A3 (h:=AB (h:=e_ (B2 (h:=w_ (a_ (h:=e_ (A4 (A7 (?_))))))))));refine A8 ?_
  first|(exfalso;first|contradiction|omega)|(exact vb (by unfold D9 C6;(repeat' split)<;>(try rw[Bool.eq_iff_iff])<;>(try simp)<;>(first|omega|(unfold C6 at *;simp only[decide_eq_true_eq,decide_eq_false_iff_not]at *;omega)|skip)))
 have hc1:=bp hb1;refine m_ (h:=Bb (h:=AF (h:=e_ (?_))));refine A9 rfl (fun hb2=>?_) (fun hb2=>?_)
 ·have hc2:=bp hb2;refine w_ (a_ (h:=e_ (A4 (A7 (?_)))));refine A8 ?_
  first|(exfalso;first|contradiction|omega)|(exact vb (by unfold D9 C6;(repeat' split)<;>(try rw[Bool.eq_iff_iff])<;>(try simp)<;>(first|omega|(unfold C6 at *;simp only[decide_eq_true_eq,decide_eq_false_iff_not]at *;omega)|skip)))
 have hc2:=bp hb2;refine AE (?_);refine EO (⟨look [(0, .v (.int .i64 list)),(1, .v (.int .i64 f)),(5, .v (.bool (C6 f)))],⟨[],[]⟩⟩) ?_ ?_
 ·skip
  refine AW (m_ (h:=EC (h:=m_ (h:=?_))));refine AR false rfl rfl (fun hb3=>?_) (fun hb3=>?_)
  ·have hc3:=bp hb3;refine A3 (h:=A3 (h:=AB (h:=m_ (h:=A3 (h:=A3 (h:=AB (h:=a_ (h:=AQ (?_)))))))));refine AK ?_
   first|(exfalso;first|contradiction|omega)|exact Az 0 0 rfl rfl rfl rfl (by repeat (first|exact Sub.nil|refine B0 rfl rfl ?_|refine B3 ?_|refine B4 rfl ?_|refine B5 rfl ?_|(apply Sub.of;(focus exact rfl);(focus exact LeA.of_eq (vb (by unfold C6;rw[Bool.eq_iff_iff];simp;try omega)));(focus exact rfl))))
  have hc3:=bp hb3;refine m_ (h:=AN (h:=AF (h:=m_ (h:=?_))));refine AR false rfl rfl (fun hb4=>?_) (fun hb4=>?_)
  ·have hc4:=bp hb4;refine A3 (h:=A3 (h:=AB (h:=a_ (h:=AQ (?_)))));refine AK ?_
   first|(exfalso;first|contradiction|omega)|exact Az 0 0 rfl rfl rfl rfl (by repeat (first|exact Sub.nil|refine B0 rfl rfl ?_|refine B3 ?_|refine B4 rfl ?_|refine B5 rfl ?_|(apply Sub.of;(focus exact rfl);(focus exact LeA.of_eq (vb (by unfold C6;rw[Bool.eq_iff_iff];simp;try omega)));(focus exact rfl))))
  have hc4:=bp hb4;refine m_ (h:=AN (h:=AF (h:=a_ (h:=AQ (?_)))));refine AK ?_
  first|(exfalso;first|contradiction|omega)|exact Az 0 0 rfl rfl rfl rfl (by repeat (first|exact Sub.nil|refine B0 rfl rfl ?_|refine B3 ?_|refine B4 rfl ?_|refine B5 rfl ?_|(apply Sub.of;(focus exact rfl);(focus exact LeA.of_eq (vb (by unfold C6;rw[Bool.eq_iff_iff];simp;try omega)));(focus exact rfl))))
 skip
 refine q_ (w_ (m_ (h:=e_ (Af (q_ (w_ (AN (h:=a_ (h:=e_ (?_))))))))));refine A9 rfl (fun hb5=>?_) (fun hb5=>?_)
 ·have hc5:=bp hb5;refine AE (B2 (h:=w_ (m_ (h:=a_ (h:=e_ (A4 (AP (A7 (?_)))))))));refine A8 ?_
  first|(exfalso;first|contradiction|omega)|(exact vb (by unfold D9 C6;(repeat' split)<;>(try rw[Bool.eq_iff_iff])<;>(try simp)<;>(first|omega|(unfold C6 at *;simp only[decide_eq_true_eq,decide_eq_false_iff_not]at *;omega)|skip)))
 have hc5:=bp hb5;refine AW (AN (h:=a_ (h:=e_ (?_))));refine A9 rfl (fun hb6=>?_) (fun hb6=>?_)
 ·have hc6:=bp hb6;refine w_ (m_ (h:=a_ (h:=e_ (A4 (AP (A7 (?_)))))));refine A8 ?_
  first|(exfalso;first|contradiction|omega)|(exact vb (by unfold D9 C6;(repeat' split)<;>(try rw[Bool.eq_iff_iff])<;>(try simp)<;>(first|omega|(unfold C6 at *;simp only[decide_eq_true_eq,decide_eq_false_iff_not]at *;omega)|skip)))
 have hc6:=bp hb6;refine w_ (AN (h:=a_ (h:=e_ (?_))));refine A9 rfl (fun hb7=>?_) (fun hb7=>?_)
 ·have hc7:=bp hb7;refine w_ (m_ (h:=EC (h:=a_ (h:=e_ (A4 (AP (A7 (?_))))))));refine A8 ?_
  first|(exfalso;first|contradiction|omega)|(exact vb (by unfold D9 C6;(repeat' split)<;>(try rw[Bool.eq_iff_iff])<;>(try simp)<;>(first|omega|(unfold C6 at *;simp only[decide_eq_true_eq,decide_eq_false_iff_not]at *;omega)|skip)))
 have hc7:=bp hb7;refine w_ (AN (h:=a_ (h:=e_ (?_))));refine A9 rfl (fun hb8=>?_) (fun hb8=>?_)
 ·have hc8:=bp hb8;refine w_ (m_ (h:=B1 (h:=a_ (h:=e_ (A4 (AP (A7 (?_))))))));refine A8 ?_
  first|(exfalso;first|contradiction|omega)|(exact vb (by unfold D9 C6;(repeat' split)<;>(try rw[Bool.eq_iff_iff])<;>(try simp)<;>(first|omega|(unfold C6 at *;simp only[decide_eq_true_eq,decide_eq_false_iff_not]at *;omega)|skip)))
 have hc8:=bp hb8;refine w_ (AN (h:=a_ (h:=e_ (?_))));refine A9 rfl (fun hb9=>?_) (fun hb9=>?_)
 ·have hc9:=bp hb9;refine w_ (m_ (h:=m_ (h:=?_)));refine AR false rfl rfl (fun hb10=>?_) (fun hb10=>?_)
  ·have hc10:=bp hb10;refine A3 (h:=A3 (h:=AB (h:=a_ (h:=e_ (A4 (AP (A7 (?_))))))));refine A8 ?_
   first|(exfalso;first|contradiction|omega)|(exact vb (by unfold D9 C6;(repeat' split)<;>(try rw[Bool.eq_iff_iff])<;>(try simp)<;>(first|omega|(unfold C6 at *;simp only[decide_eq_true_eq,decide_eq_false_iff_not]at *;omega)|skip)))
  have hc10:=bp hb10;refine m_ (h:=AN (h:=AF (h:=a_ (h:=e_ (A4 (AP (A7 (?_))))))));refine A8 ?_
  first|(exfalso;first|contradiction|omega)|(exact vb (by unfold D9 C6;(repeat' split)<;>(try rw[Bool.eq_iff_iff])<;>(try simp)<;>(first|omega|(unfold C6 at *;simp only[decide_eq_true_eq,decide_eq_false_iff_not]at *;omega)|skip)))
 have hc9:=bp hb9;refine Aw (Al (t_ (w_ (a_ (h:=e_ (A4 (?_)))))));refine A8 ?_
 first|(exfalso;first|contradiction|omega)|(exact vb (by unfold D9 C6;(repeat' split)<;>(try rw[Bool.eq_iff_iff])<;>(try simp)<;>(first|omega|(unfold C6 at *;simp only[decide_eq_true_eq,decide_eq_false_iff_not]at *;omega)|skip)))
end
end Go.Proofs.YtbgnigjfkbmceaaGreatDoor
