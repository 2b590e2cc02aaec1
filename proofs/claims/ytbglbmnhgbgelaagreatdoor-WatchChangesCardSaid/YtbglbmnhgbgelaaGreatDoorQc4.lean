/-
  Part 4 of the proof of WatchChangesP: what the statement's proof uses of the texts in wip/tpl.
-/
import Derived.WalkKit
import Derived.Test.YtbglbmnhgbgelaaGreatDoorQc3
set_option maxRecDepth 10000
set_option maxHeartbeats 4000000
set_option linter.unusedVariables false
set_option linter.unusedSimpArgs false
namespace Go.Proofs.YtbglbmnhgbgelaaGreatDoor
open Go.RowKit
section
variable {P:Program}{N:Dim}{Q:Exit→AS→Prop}{s:AS}
def AC(P:Program)(N:Dim)(y:Code)(Q:Exit→AS→Prop)(s:AS):Prop:=Bc P N y Q s
theorem q_{x y:Code}(h:Bc P N x (FL (AC P N y Q) Q) s):Bc P N (.seq x y) Q s:=by
 intro E a w hr
 refine wp_seq (wp_mono (h E a w hr) ?_)
 rintro e a' w' ⟨s',hq,hr'⟩
 cases e with
 |normal=>exact hq E a' w' hr'
 |exit id=>exact⟨s',hq,hr'⟩
 |goto l=>exact⟨s',hq,hr'⟩
 |ret=>exact⟨s',hq,hr'⟩
 |panic c=>exact⟨s',hq,hr'⟩
 |outgrown=>exact⟨s',hq,hr'⟩
theorem w_{id:Nat}{l:List Oper}{y:Code}(h:AL P N l.toArray (FL (AC P N y Q) Q) l s):Bc P N (.seq (.region id l.toArray false) y) Q s:=q_ (AP h)
theorem t_{y:Code}(h:Bc P N y Q s):FL (AC P N y Q) Q .normal s:=h
theorem e_{ops:Array Oper}{y:Code}(h:Bc P N y Q s):AL P N ops (FL (AC P N y Q) Q) [] s:=AO h
theorem AM{y:Code}(h:Bc P N y Q s):Bc P N .skip (FL (AC P N y Q) Q) s:=B4 h
theorem C1{c:Operand}{x y:Code}{t:Bool}(hc:Bt s.sl c=some (.v (.bool t)):=by rfl)(ht:t=true:=by first|rfl|assumption|simp[*])(h:Bc P N x Q s):Bc P N (.cond c x y) Q s:=VG hc ht h
theorem Fh{c:Operand}{x y:Code}{t:Bool}(hc:Bt s.sl c=some (.v (.bool t)):=by rfl)(ht:t=false:=by first|rfl|assumption|simp[*])(h:Bc P N y Q s):Bc P N (.cond c x y) Q s:=VH hc ht h
end
section
variable {P:Program}{N:Dim}{Q:Exit→AS→Prop}{ops:Array Oper}{rest:List Oper}{l:List (Nat×AV)}{hh:AH}{op:Op}{ty:TypeId}{pos:String}{af:Array Edge}
theorem A3{d j:Nat}{want t:Bool}(hd:Nat.blt d N.n=true:=by rfl)(hy:yv ops (look l) j=some (some t):=by rfl)(ht:(t==want)=false:=by first|rfl|exact Qg ‹_›|exact Qh ‹_›|simp[*])(h:AL P N ops Q rest ⟨look ((d, .v undef)::l),hh⟩):AL P N ops Q (⟨some d,op,ty,pos,af,some (j,want)⟩::rest) ⟨look l,hh⟩:=VJ hd hy ht h
theorem EO{d j:Nat}{want:Bool}(hd:Nat.blt d N.n=true:=by rfl)(hy:yv ops (look l) j=some none:=by rfl)(h:AL P N ops Q rest ⟨look ((d, .v undef)::l),hh⟩):AL P N ops Q (⟨some d,op,ty,pos,af,some (j,want)⟩::rest) ⟨look l,hh⟩:=VK hd hy h
end
def KB:List (Nat×List AV)→AH→Prop
 |[],_=>True
 |(i,r)::l,h=>h.bx[i]?=some r∧KB l h
def O8:List (Nat×List AV)→Nat→Option (List AV)
 |[],_=>none
 |(i,r)::l,j=>match Nat.beq i j with
   |true=>some r
   |false=>O8 l j
theorem kb:∀{l:List (Nat×List AV)} {h:AH} {i:Nat} {row:List AV},KB l h→O8 l i=some row→h.bx[i]?=some row
 |[],_,_,_,_,e=>by cases e
 |(j,r)::l,h,i,row,k,e=>by
   unfold O8 at e
   split at e
   ·rename_i hb
    have:=Nat.eq_of_beq_eq_true hb
    subst this
    injection e with e
    subst e
    exact k.1
   exact kb k.2 e
theorem Kk(h:AH):KB [] h:=trivial
theorem Kl{l:List (Nat×List AV)}{h:AH}{i:Nat}{r:List AV}(h1:h.bx[i]?=some r)(h2:KB l h):KB ((i,r)::l) h:=⟨h1,h2⟩
def Do(_i:Nat)(B A:Prop):Prop:=B→A
section
variable {P:Program}{N:Dim}{l:List Oper}{Q:Exit→AS→Prop}{S:AH→Prop}{tl fuel:Nat}{listed:Array Bool}{m:List (Nat×AV)}{hh:AH}{op:Op}{ty:TypeId}{pos:String}{af:Array Edge}{gd:Option (Nat×Bool)}
theorem CV{i d:Nat}{x:AV}(hi:l[i]?=some ⟨some d,op,ty,pos,af,gd⟩)(hst:AStep P ⟨some d,op,ty,pos,af,gd⟩ (Bt (look m)) hh (fun x' h'=>x'=x∧h'=hh))(hd:Nat.blt d N.n=true:=by rfl)(htl:(Fx l.toArray tl listed&& !Nat.ble tl i&&Region.free .any l.toArray listed i&&(Region.ready .any l.toArray listed).contains i)=true:=by kernel_rfl)
    (hw:C7 l.toArray (look m) ⟨some d,op,ty,pos,af,gd⟩=some true:=by first|rfl|exact AZ rfl rfl (Be ‹_›)|exact AZ rfl rfl (Bf ‹_›)|exact AZ rfl rfl (by simp[*])):
    Do i (AAny P N l.toArray Q (fun h'=>h'=hh) tl fuel (listed.setIfInBounds i true) ⟨look ((d,x)::m),hh⟩) (AAny P N l.toArray Q (fun h'=>h'=hh) tl (fuel+1) listed ⟨look m,hh⟩):=fun H=>QJ hi hd htl hw hst H
theorem CW{K:List (Nat×List AV)}{i d:Nat}{x:AV}(hi:l[i]?=some ⟨some d,op,ty,pos,af,gd⟩)(hst:∀h,KB K h→AStep P ⟨some d,op,ty,pos,af,gd⟩ (Bt (look m)) h (fun x' h'=>x'=x∧h'=h))(hd:Nat.blt d N.n=true:=by rfl)(htl:(Fx l.toArray tl listed&& !Nat.ble tl i&&Region.free .any l.toArray listed i&&(Region.ready .any l.toArray listed).contains i)=true:=by kernel_rfl)
    (hw:C7 l.toArray (look m) ⟨some d,op,ty,pos,af,gd⟩=some true:=by first|rfl|exact AZ rfl rfl (Be ‹_›)|exact AZ rfl rfl (Bf ‹_›)|exact AZ rfl rfl (by simp[*])) (hS:KB K hh:=by repeat (first|exact Kk _|refine Kl rfl ?_)):
    Do i (AAny P N l.toArray Q (KB K) tl fuel (listed.setIfInBounds i true) ⟨look ((d,x)::m),hh⟩) (AAny P N l.toArray Q (KB K) tl (fuel+1) listed ⟨look m,hh⟩):=fun H=>By hi hd htl hw hst hS H
theorem Bn{K:List (Nat×List AV)}(i:Nat){d:Nat}{x:AV}(hi:l[i]?=some ⟨some d,op,ty,pos,af,gd⟩)(hst:∀h,KB K h→AStep P ⟨some d,op,ty,pos,af,gd⟩ (Bt (look m)) h (fun x' h'=>x'=x∧h'=h))(H:AAny P N l.toArray Q (KB K) tl fuel (listed.setIfInBounds i true) ⟨look ((d,x)::m),hh⟩)(hd:Nat.blt d N.n=true:=by rfl)(htl:(Fx l.toArray tl listed&& !Nat.ble tl i&&Region.free .any l.toArray listed i&&(Region.ready .any l.toArray listed).contains i)=true:=by kernel_rfl)
    (hw:C7 l.toArray (look m) ⟨some d,op,ty,pos,af,gd⟩=some true:=by first|rfl|exact AZ rfl rfl (Be ‹_›)|exact AZ rfl rfl (Bf ‹_›)|exact AZ rfl rfl (by simp[*])) (hS:KB K hh:=by repeat (first|exact Kk _|refine Kl rfl ?_)):AAny P N l.toArray Q (KB K) tl (fuel+1) listed ⟨look m,hh⟩:=By hi hd htl hw hst hS H
theorem BW(i:Nat){d:Nat}(hi:l[i]?=some ⟨some d,op,ty,pos,af,gd⟩:=by rfl)(hd:Nat.blt d N.n=true:=by rfl)(htl:(Fx l.toArray tl listed&& !Nat.ble tl i&&Region.free .any l.toArray listed i&&(Region.ready .any l.toArray listed).contains i)=true:=by kernel_rfl)
    (hw:C7 l.toArray (look m) ⟨some d,op,ty,pos,af,gd⟩=some false:=by first|rfl|exact NY rfl rfl (Qg ‹_›)|exact NY rfl rfl (Qh ‹_›)|exact Us rfl rfl|exact NY rfl rfl (by simp[*]))
    (hS:S hh:=by first|rfl|(repeat (first|exact Kk _|refine Kl rfl ?_))) (h:AAny P N l.toArray Q S tl fuel (listed.setIfInBounds i true) ⟨look ((d, .v undef)::m),hh⟩):AAny P N l.toArray Q S tl (fuel+1) listed ⟨look m,hh⟩:=Un hi hd htl hw hS h
theorem c_(i:Nat){d:Nat}(hi:l[i]?=some ⟨some d,op,ty,pos,af,gd⟩)(H:AStep P ⟨some d,op,ty,pos,af,gd⟩ (Bt (look m)) hh (fun x h'=>(Nat.ble tl i=true∨S h')∧AAny P N l.toArray Q S tl fuel (listed.setIfInBounds i true) ⟨look ((d,x)::m),h'⟩))(hd:Nat.blt d N.n=true:=by rfl)(hr:Region.ready .any l.toArray listed=[i]:=by kernel_rfl)
    (hw:C7 l.toArray (look m) ⟨some d,op,ty,pos,af,gd⟩=some true:=by first|rfl|exact AZ rfl rfl (Be ‹_›)|exact AZ rfl rfl (Bf ‹_›)|exact AZ rfl rfl (by simp[*])):AAny P N l.toArray Q S tl (fuel+1) listed ⟨look m,hh⟩:=Uo hi hd hr hw H
theorem Az(i:Nat)(hi:l[i]?=some ⟨none,op,ty,pos,af,gd⟩)(H:AStep P ⟨none,op,ty,pos,af,gd⟩ (Bt (look m)) hh (fun _ h'=>(Nat.ble tl i=true∨S h')∧AAny P N l.toArray Q S tl fuel (listed.setIfInBounds i true) ⟨look m,h'⟩))(hr:Region.ready .any l.toArray listed=[i]:=by kernel_rfl)
    (hw:C7 l.toArray (look m) ⟨none,op,ty,pos,af,gd⟩=some true:=by first|rfl|exact AZ rfl rfl (Be ‹_›)|exact AZ rfl rfl (Bf ‹_›)|exact AZ rfl rfl (by simp[*])):AAny P N l.toArray Q S tl (fuel+1) listed ⟨look m,hh⟩:=Up hi hr hw H
theorem Dg(i j:Nat){di dj:Nat}{op':Op}{ty':TypeId}{pos':String}{af':Array Edge}{gd':Option (Nat×Bool)}(hi:l[i]?=some ⟨some di,op,ty,pos,af,gd⟩)(hj:l[j]?=some ⟨some dj,op',ty',pos',af',gd'⟩)
    (H1:AStep P ⟨some di,op,ty,pos,af,gd⟩ (Bt (look m)) hh (fun x h'=>(Nat.ble tl i=true∨S h')∧AAny P N l.toArray Q S tl fuel (listed.setIfInBounds i true) ⟨look ((di,x)::m),h'⟩))
    (H2:AStep P ⟨some dj,op',ty',pos',af',gd'⟩ (Bt (look m)) hh (fun x h'=>(Nat.ble tl j=true∨S h')∧AAny P N l.toArray Q S tl fuel (listed.setIfInBounds j true) ⟨look ((dj,x)::m),h'⟩))
    (hdi:Nat.blt di N.n=true:=by rfl) (hdj:Nat.blt dj N.n=true:=by rfl) (hr:Region.ready .any l.toArray listed=[i,j]:=by kernel_rfl)
    (hwi:C7 l.toArray (look m) ⟨some di,op,ty,pos,af,gd⟩=some true:=by first|rfl|exact AZ rfl rfl (Be ‹_›)|exact AZ rfl rfl (Bf ‹_›)|exact AZ rfl rfl (by simp[*]))
    (hwj:C7 l.toArray (look m) ⟨some dj,op',ty',pos',af',gd'⟩=some true:=by first|rfl|exact AZ rfl rfl (Be ‹_›)|exact AZ rfl rfl (Bf ‹_›)|exact AZ rfl rfl (by simp[*])):AAny P N l.toArray Q S tl (fuel+1) listed ⟨look m,hh⟩:=VY hr hi hdi hwi hj hdj hwj H1 H2
theorem o_{i:Nat}{A:Prop}{h':AH}(hS:Nat.ble tl i=true∨S h':=by first|exact .inl rfl|exact .inr rfl|exact .inr (by repeat (first|exact Kk _|refine Kl rfl ?_)))(h:A):(Nat.ble tl i=true∨S h')∧A:=⟨hS,h⟩
theorem z_(hr:Region.ready .any l.toArray listed=[]:=by kernel_rfl)(h:Q .normal ⟨look m,hh⟩):AAny P N l.toArray Q S tl fuel listed ⟨look m,hh⟩:=Ur hr h fuel
theorem DV(tl:Nat){id:Nat}(hm:P.follows .mixedOrders=true:=by kernel_rfl)(h:AAny P N l.toArray Q (fun h'=>h'=hh) tl l.length (Array.replicate l.length false) ⟨look m,hh⟩):Bc P N (.region id l.toArray true) Q ⟨look m,hh⟩:=Uq tl hm h
theorem BM(K:List (Nat×List AV))(tl:Nat){id:Nat}(hm:P.follows .mixedOrders=true:=by kernel_rfl)(h:AAny P N l.toArray Q (KB K) tl l.length (Array.replicate l.length false) ⟨look m,hh⟩):Bc P N (.region id l.toArray true) Q ⟨look m,hh⟩:=JW _ tl hm h
end
section
variable {P:Program}{rs:List ResultVar}{n:Nat}{R:AV→List (List AV)→List CH→Prop}{s:AS}{xs:List AV}{r:AV}
theorem Aw(g:Option Nat){tk':List CH}(h1:ResA P s rs xs:=by repeat (first|exact ResA.nil|(apply ResA.tmp;(focus exact rfl))|(apply ResA.cellN;(focus exact inferInstance);(focus exact rfl);(focus exact rfl);(focus exact rfl))|(apply ResA.cell1;(focus exact inferInstance);(focus exact rfl);(focus exact rfl);(focus exact rfl))))(h2:Gv s.h.tk g=some tk':=by rfl)(h3:Ao n 1 (Cq g (Dq xs))=true:=by rfl)(h4:Aq n 0 (s.h.bx.take n)=true:=by rfl)(h5:LeA (Cq g (Dq xs)) r)(h6:R r (s.h.bx.take n) tk'):Gw P rs n R .ret s:=Ns g h1 h2 h3 h4 h5 h6
theorem MT(g:Option Nat){tk':List CH}(h1:ResA P s rs xs:=by repeat (first|exact ResA.nil|(apply ResA.tmp;(focus exact rfl))|(apply ResA.cellN;(focus exact inferInstance);(focus exact rfl);(focus exact rfl);(focus exact rfl))|(apply ResA.cell1;(focus exact inferInstance);(focus exact rfl);(focus exact rfl);(focus exact rfl))))(h2:Gv s.h.tk g=some tk':=by rfl)(h3:Ao n 1 (Cq g (Dq xs))=true:=by rfl)(h4:Aq n 0 (s.h.bx.take n)=true:=by rfl)(h5:LeA (Cq g (Dq xs)) r)(h6:R r (s.h.bx.take n) tk'):Gw P rs n R .normal s:=V8 g h1 h2 h3 h4 h5 h6
end
theorem m_{A B:Prop}(k:B→A:=by intro b;first|exact A4 rfl (EL rfl b)|exact B0 (EL rfl b))(h:B):A:=k h
theorem AN(i:Nat){A B:Prop}(k:Do i B A:=by first|exact CV rfl (EL rfl ⟨rfl,rfl⟩)|exact CW rfl (fun _ _=>EL rfl ⟨rfl,rfl⟩))(h:B):A:=k h
theorem a_{A B:Prop}(k:B→A:=by intro b;first|exact A4 rfl (Fz rfl b)|exact B0 (Fz rfl b))(h:B):A:=k h
theorem B6(i:Nat){A B:Prop}(k:Do i B A:=by first|exact CV rfl (Fz rfl ⟨rfl,rfl⟩)|exact CW rfl (fun _ _=>Fz rfl ⟨rfl,rfl⟩))(h:B):A:=k h
theorem f_{A B:Prop}(k:B→A:=by intro b;first|exact A4 rfl (E9 rfl b)|exact A4 rfl (Lt rfl b)|exact B0 (E9 rfl b)|exact B0 (Lt rfl b))(h:B):A:=k h
theorem AJ(i:Nat){A B:Prop}(k:Do i B A:=by first|exact CV rfl (E9 rfl ⟨rfl,rfl⟩)|exact CV rfl (Lt rfl ⟨rfl,rfl⟩)|exact CW rfl (fun _ _=>E9 rfl ⟨rfl,rfl⟩)|exact CW rfl (fun _ _=>Lt rfl ⟨rfl,rfl⟩))(h:B):A:=k h
theorem l_{A B:Prop}(k:B→A:=by intro b;first|exact A4 rfl (Ca rfl rfl rfl b)|exact A4 rfl (G4 rfl rfl rfl b)|exact A4 rfl (Hs rfl rfl b)|exact A4 rfl (KS rfl rfl b)|exact A4 rfl (FM rfl rfl rfl b)|exact A4 rfl (KR rfl rfl b)|exact B0 (Ca rfl rfl rfl b)|exact B0 (G4 rfl rfl rfl b)|exact B0 (Hs rfl rfl b)|exact B0 (KS rfl rfl b)|exact B0 (FM rfl rfl rfl b)|exact B0 (KR rfl rfl b))(h:B):A:=k h
theorem AF(i:Nat){A B:Prop}(k:Do i B A:=by first|exact CV rfl (Ca rfl rfl rfl ⟨rfl,rfl⟩)|exact CV rfl (G4 rfl rfl rfl ⟨rfl,rfl⟩)|exact CV rfl (Hs rfl rfl ⟨rfl,rfl⟩)|exact CV rfl (KS rfl rfl ⟨rfl,rfl⟩)|exact CV rfl (FM rfl rfl rfl ⟨rfl,rfl⟩)|exact CV rfl (KR rfl rfl ⟨rfl,rfl⟩)|exact CW rfl (fun _ hS=>Ca rfl (kb hS rfl) rfl ⟨rfl,rfl⟩)|exact CW rfl (fun _ hS=>G4 rfl (kb hS rfl) rfl ⟨rfl,rfl⟩)|exact CW rfl (fun _ _=>Hs rfl rfl ⟨rfl,rfl⟩)|exact CW rfl (fun _ _=>KS rfl rfl ⟨rfl,rfl⟩)|exact CW rfl (fun _ hS=>FM rfl (kb hS rfl) rfl ⟨rfl,rfl⟩)|exact CW rfl (fun _ _=>KR rfl rfl ⟨rfl,rfl⟩))(h:B):A:=k h
theorem s_{A B:Prop}(k:B→A:=by intro b;exact Kd (Av rfl rfl rfl rfl rfl rfl (by repeat constructor) (by repeat constructor) b))(h:B):A:=k h
theorem b_{A B:Prop}(k:B→A:=by intro b;first|exact A4 rfl (Nx rfl rfl (by repeat constructor) b)|exact A4 rfl (Qi rfl rfl (by repeat constructor) b)|exact B0 (Nx rfl rfl (by repeat constructor) b)|exact B0 (Qi rfl rfl (by repeat constructor) b))(h:B):A:=k h
theorem AY{A B:Prop}(k:B→A:=by intro b;first|exact A4 rfl (Bz (by repeat constructor) b)|exact B0 (Bz (by repeat constructor) b))(h:B):A:=k h
theorem n_{A B:Prop}(k:B→A:=by intro b;first|exact A4 rfl (M5 rfl b)|exact A4 rfl (M4 (by kernel_rfl) rfl b)|exact A4 rfl (M6 rfl b)|exact B0 (M5 rfl b)|exact B0 (M4 (by kernel_rfl) rfl b)|exact B0 (M6 rfl b))(h:B):A:=k h
theorem Jd(i:Nat){A B:Prop}(k:Do i B A:=by first|exact CV rfl (M5 rfl ⟨rfl,rfl⟩)|exact CV rfl (M4 (by kernel_rfl) rfl ⟨rfl,rfl⟩)|exact CV rfl (M6 rfl ⟨rfl,rfl⟩)|exact CW rfl (fun _ _=>M5 rfl ⟨rfl,rfl⟩)|exact CW rfl (fun _ _=>M4 (by kernel_rfl) rfl ⟨rfl,rfl⟩)|exact CW rfl (fun _ _=>M6 rfl ⟨rfl,rfl⟩))(h:B):A:=k h
theorem Fi{A B:Prop}(k:B→A:=by intro b;first|exact A4 rfl (EM rfl rfl rfl (by simp<;>omega) (by repeat constructor) b)|exact A4 rfl (GQ rfl rfl (by simp<;>omega) (by repeat constructor) b)|exact B0 (EM rfl rfl rfl (by simp<;>omega) (by repeat constructor) b)|exact B0 (GQ rfl rfl (by simp<;>omega) (by repeat constructor) b))(h:B):A:=k h
theorem x_{A B:Prop}(k:B→A:=by intro b;first|exact A4 rfl (Lr rfl rfl b)|exact B0 (Lr rfl rfl b))(h:B):A:=k h
theorem B1(i:Nat){A B:Prop}(k:Do i B A:=by first|exact CV rfl (Lr rfl rfl ⟨rfl,rfl⟩)|exact CW rfl (fun _ _=>Lr rfl rfl ⟨rfl,rfl⟩))(h:B):A:=k h
theorem k_{A B:Prop}(k:B→A:=by intro b;first|exact A4 rfl (G0 rfl b)|exact A4 rfl (Ls rfl b)|exact B0 (G0 rfl b)|exact B0 (Ls rfl b))(h:B):A:=k h
theorem BC(i:Nat){A B:Prop}(k:Do i B A:=by first|exact CV rfl (G0 rfl ⟨rfl,rfl⟩)|exact CV rfl (Ls rfl ⟨rfl,rfl⟩)|exact CW rfl (fun _ _=>G0 rfl ⟨rfl,rfl⟩)|exact CW rfl (fun _ _=>Ls rfl ⟨rfl,rfl⟩))(h:B):A:=k h
theorem AU{A B:Prop}(k:B→A:=by intro b;first|exact A4 rfl (KW (by repeat (first|exact FillA.nil _|(apply FillA.cons;(focus exact rfl);(focus exact rfl);(focus exact rfl);(focus exact rfl);(focus exact rfl);(focus (repeat constructor))))) b)|exact B0 (KW (by repeat (first|exact FillA.nil _|(apply FillA.cons;(focus exact rfl);(focus exact rfl);(focus exact rfl);(focus exact rfl);(focus exact rfl);(focus (repeat constructor))))) b))(h:B):A:=k h
theorem EP(i:Nat){A B:Prop}(k:Do i B A:=by first|exact CV rfl (KW (by repeat (first|exact FillA.nil _|(apply FillA.cons;(focus exact rfl);(focus exact rfl);(focus exact rfl);(focus exact rfl);(focus exact rfl);(focus (repeat constructor))))) ⟨rfl,rfl⟩)|exact CW rfl (fun _ _=>KW (by repeat (first|exact FillA.nil _|(apply FillA.cons;(focus exact rfl);(focus exact rfl);(focus exact rfl);(focus exact rfl);(focus exact rfl);(focus (repeat constructor))))) ⟨rfl,rfl⟩))(h:B):A:=k h
theorem Bg{A B:Prop}(k:B→A:=by intro b;first|exact A4 rfl (KX (by repeat (first|exact DenseA.nil _|(apply DenseA.cons;(focus exact rfl);(focus exact rfl);(focus exact rfl);(focus exact rfl))|(apply DenseA.consE;(focus exact rfl);(focus exact rfl);(focus exact rfl)))) rfl rfl rfl rfl b)|exact B0 (KX (by repeat (first|exact DenseA.nil _|(apply DenseA.cons;(focus exact rfl);(focus exact rfl);(focus exact rfl);(focus exact rfl))|(apply DenseA.consE;(focus exact rfl);(focus exact rfl);(focus exact rfl)))) rfl rfl rfl rfl b))(h:B):A:=k h
theorem Je(i:Nat){A B:Prop}(k:Do i B A:=by first|exact CV rfl (KX (by repeat (first|exact DenseA.nil _|(apply DenseA.cons;(focus exact rfl);(focus exact rfl);(focus exact rfl);(focus exact rfl))|(apply DenseA.consE;(focus exact rfl);(focus exact rfl);(focus exact rfl)))) rfl rfl rfl rfl ⟨rfl,rfl⟩)|exact CW rfl (fun _ _=>KX (by repeat (first|exact DenseA.nil _|(apply DenseA.cons;(focus exact rfl);(focus exact rfl);(focus exact rfl);(focus exact rfl))|(apply DenseA.consE;(focus exact rfl);(focus exact rfl);(focus exact rfl)))) rfl rfl rfl rfl ⟨rfl,rfl⟩))(h:B):A:=k h
theorem AX{A B:Prop}(k:B→A:=by intro b;first|exact A4 rfl (MK b)|exact B0 (MK b))(h:B):A:=k h
theorem Gx(i:Nat){A B:Prop}(k:Do i B A:=by first|exact CV rfl (MK ⟨rfl,rfl⟩)|exact CW rfl (fun _ _=>MK ⟨rfl,rfl⟩))(h:B):A:=k h
theorem Af{A B:Prop}(k:B→A:=by intro b;first|exact A4 rfl (ML b)|exact B0 (ML b))(h:B):A:=k h
theorem FP(i:Nat){A B:Prop}(k:Do i B A:=by first|exact CV rfl (ML ⟨rfl,rfl⟩)|exact CW rfl (fun _ _=>ML ⟨rfl,rfl⟩))(h:B):A:=k h
theorem i_{A B:Prop}(k:B→A:=by intro b;first|exact A4 rfl (Ck rfl rfl rfl (by first|assumption|rfl) b)|exact B0 (Ck rfl rfl rfl (by first|assumption|rfl) b))(h:B):A:=k h
theorem DN(i:Nat){A B:Prop}(k:Do i B A:=by first|exact CV rfl (Ck rfl rfl rfl (by first|assumption|rfl) ⟨rfl,rfl⟩)|exact CW rfl (fun _ _=>Ck rfl rfl rfl (by first|assumption|rfl) ⟨rfl,rfl⟩))(h:B):A:=k h
theorem VZ{A B:Prop}(k:B→A:=by intro b;first|exact A4 rfl (Qj rfl rfl (by omega) (by repeat constructor) b)|exact B0 (Qj rfl rfl (by omega) (by repeat constructor) b))(h:B):A:=k h
theorem BR{A B:Prop}(k:B→A:=by intro b;first|exact A4 rfl (M3 rfl b)|exact B0 (M3 rfl b))(h:B):A:=k h
theorem O9(i:Nat){A B:Prop}(k:Do i B A:=by first|exact CV rfl (M3 rfl ⟨rfl,rfl⟩)|exact CW rfl (fun _ _=>M3 rfl ⟨rfl,rfl⟩))(h:B):A:=k h
theorem B2{A B:Prop}(k:B→A:=by intro b;first|exact A4 rfl (Ht rfl rfl (by omega) b)|exact A4 rfl (EA rfl rfl (by omega) b)|exact A4 rfl (Nl rfl rfl b)|exact B0 (Ht rfl rfl (by omega) b)|exact B0 (EA rfl rfl (by omega) b)|exact B0 (Nl rfl rfl b))(h:B):A:=k h
theorem MU{A B:Prop}(k:B→A:=by intro b;first|exact A4 rfl (Hu rfl rfl (by omega) b)|exact A4 rfl (KV rfl rfl b)|exact B0 (Hu rfl rfl (by omega) b)|exact B0 (KV rfl rfl b))(h:B):A:=k h
theorem OA(i:Nat){A B:Prop}(k:Do i B A:=by first|exact CV rfl (Hu rfl rfl (by omega) ⟨rfl,rfl⟩)|exact CV rfl (KV rfl rfl ⟨rfl,rfl⟩)|exact CW rfl (fun _ _=>Hu rfl rfl (by omega) ⟨rfl,rfl⟩)|exact CW rfl (fun _ _=>KV rfl rfl ⟨rfl,rfl⟩))(h:B):A:=k h
theorem Va{A B:Prop}(k:B→A:=by intro b;first|exact A4 rfl (QP rfl rfl b)|exact B0 (QP rfl rfl b))(h:B):A:=k h
theorem AW{A B:Prop}(k:B→A:=by intro b;first|exact A4 rfl (Lx rfl rfl b)|exact A4 rfl (M1 rfl rfl b)|exact A4 rfl (ME (by kernel_rfl) rfl rfl b)|exact B0 (Lx rfl rfl b)|exact B0 (M1 rfl rfl b)|exact B0 (ME (by kernel_rfl) rfl rfl b))(h:B):A:=k h
theorem GS(i:Nat){A B:Prop}(k:Do i B A:=by first|exact CV rfl (Lx rfl rfl ⟨rfl,rfl⟩)|exact CV rfl (M1 rfl rfl ⟨rfl,rfl⟩)|exact CV rfl (ME (by kernel_rfl) rfl rfl ⟨rfl,rfl⟩)|exact CW rfl (fun _ _=>Lx rfl rfl ⟨rfl,rfl⟩)|exact CW rfl (fun _ _=>M1 rfl rfl ⟨rfl,rfl⟩)|exact CW rfl (fun _ _=>ME (by kernel_rfl) rfl rfl ⟨rfl,rfl⟩))(h:B):A:=k h
theorem BN{A B:Prop}(k:B→A:=by intro b;first|exact A4 rfl (Ly rfl rfl b)|exact A4 rfl (M2 rfl rfl b)|exact A4 rfl (MF (by kernel_rfl) rfl rfl b)|exact B0 (Ly rfl rfl b)|exact B0 (M2 rfl rfl b)|exact B0 (MF (by kernel_rfl) rfl rfl b))(h:B):A:=k h
theorem MV(i:Nat){A B:Prop}(k:Do i B A:=by first|exact CV rfl (Ly rfl rfl ⟨rfl,rfl⟩)|exact CV rfl (M2 rfl rfl ⟨rfl,rfl⟩)|exact CV rfl (MF (by kernel_rfl) rfl rfl ⟨rfl,rfl⟩)|exact CW rfl (fun _ _=>Ly rfl rfl ⟨rfl,rfl⟩)|exact CW rfl (fun _ _=>M2 rfl rfl ⟨rfl,rfl⟩)|exact CW rfl (fun _ _=>MF (by kernel_rfl) rfl rfl ⟨rfl,rfl⟩))(h:B):A:=k h
theorem BH{A B:Prop}(k:B→A:=by intro b;first|exact A4 rfl (QR rfl rfl b)|exact A4 rfl (QU rfl rfl b)|exact B0 (QR rfl rfl b)|exact B0 (QU rfl rfl b))(h:B):A:=k h
theorem Km{A B:Prop}(k:B→A:=by intro b;first|exact A4 rfl (Lz rfl rfl b)|exact B0 (Lz rfl rfl b))(h:B):A:=k h
theorem Vb(i:Nat){A B:Prop}(k:Do i B A:=by first|exact CV rfl (Lz rfl rfl ⟨rfl,rfl⟩)|exact CW rfl (fun _ _=>Lz rfl rfl ⟨rfl,rfl⟩))(h:B):A:=k h
theorem CC{A B:Prop}(k:B→A:=by intro b;first|exact A4 rfl (M0 rfl rfl b)|exact B0 (M0 rfl rfl b))(h:B):A:=k h
theorem OB(i:Nat){A B:Prop}(k:Do i B A:=by first|exact CV rfl (M0 rfl rfl ⟨rfl,rfl⟩)|exact CW rfl (fun _ _=>M0 rfl rfl ⟨rfl,rfl⟩))(h:B):A:=k h
theorem Fj{A B:Prop}(k:B→A:=by intro b;first|exact A4 rfl (QS rfl rfl b)|exact A4 rfl (QV rfl rfl b)|exact B0 (QS rfl rfl b)|exact B0 (QV rfl rfl b))(h:B):A:=k h
theorem Dr{A B:Prop}(k:B→A:=by intro b;first|exact A4 rfl (Qk rfl rfl b)|exact B0 (Qk rfl rfl b))(h:B):A:=k h
theorem at_{A B:Prop}(k:B→A:=by intro b;first|exact A4 rfl (Qr rfl rfl b)|exact B0 (Qr rfl rfl b))(h:B):A:=k h
theorem R6{A B:Prop}(k:B→A:=by intro b;first|exact A4 rfl (Ql rfl rfl (by omega) b)|exact B0 (Ql rfl rfl (by omega) b))(h:B):A:=k h
theorem Bl{f:Nat→Option AV}{bx:List (List AV)}{tk:List (Nat×Nat×List (List AV))}{l:List (Nat×AV)}{N:Dim}(n m:Nat){bx':List (List AV)}{tk':List (Nat×Nat×List (List AV))}(hbp:Aq n m bx'=true)(hn:Nat.ble N.ni n=true:=by rfl)(hb:bx.take n=bx':=by rfl)(ht:tk.take m=tk':=by rfl)(hl:Sub n m f l:=by repeat (first|exact Sub.nil|refine Sub.cons _ _ _ rfl rfl ?_|refine Sub.any _ _ ?_|refine Sub.sl _ _ _ _ _ rfl ?_|refine Sub.slnil _ _ _ rfl ?_)):Weak N ⟨f,⟨bx,tk⟩⟩ ⟨look l,⟨bx',tk'⟩⟩:=As n m hn hb ht hbp hl
theorem DF{P:Program}{ev:Operand→Option AV}{h:AH}{R:AV→AH→Prop}{d:Option Tmp}{ty:TypeId}{pos:String}{af:Array Edge}{gd:Option (Nat×Bool)}{T:TypeId}{l:List (Nat×Operand)}{pl:List (Nat×Nat)}{row cs:List AV}[hp:Plc P T pl][hz:Zer P T row](hR:R (.agg cs) h)(hf:FillA pl ev row l cs:=by repeat (first|exact FillA.nil _|(apply FillA.cons;(focus exact rfl);(focus exact rfl);(focus exact rfl);(focus exact rfl);(focus exact rfl);(focus (repeat constructor))))):AStep P ⟨d, .build T l.toArray,ty,pos,af,gd⟩ ev h R:=KW hf hR
theorem Fk{P:Program}{ev:Operand→Option AV}{h:AH}{R:AV→AH→Prop}{o:Oper}{x y:AV}(hs:AStep P o ev h fun r h'=>r=x∧h'=h)(hR:R y h)(hl:LeA x y:=by repeat (first|exact LeA.refl _|exact LeA.nil _|exact LeL.refl _|refine LeA.agg ?_|refine LeA.tup ?_|exact LeL.nil|refine LeL.cons ?_ ?_|exact LeA.any _)):AStep P o ev h R:=EN hs hl hR
instance :Typ Tryz.prog 3 1 false:=⟨by kernel_rfl⟩
instance :Typ Tryz.prog 4 1 false:=⟨by kernel_rfl⟩
instance :Typ Tryz.prog 9 1 false:=⟨by kernel_rfl⟩
instance :Typ Tryz.prog 22 1 false:=⟨by kernel_rfl⟩
instance :Elm Tryz.prog 22 3 1 8:=⟨by kernel_rfl,by decide⟩
instance :Typ Tryz.prog 26 1 false:=⟨by kernel_rfl⟩
instance :Elm Tryz.prog 26 120 2 32:=⟨by kernel_rfl,by decide⟩
instance :Typ Tryz.prog 28 1 true:=⟨by kernel_rfl⟩
instance :Zer Tryz.prog 28 [.v (.slice none 0 0)]:=⟨[.slice none 0 0],by kernel_rfl,rfl,rfl⟩
instance :Plc Tryz.prog 28 [(0,1)]:=⟨by kernel_rfl⟩
instance :Fld Tryz.prog 28 0 0 1:=⟨by kernel_rfl⟩
instance :Typ Tryz.prog 29 1 false:=⟨by kernel_rfl⟩
instance :Elm Tryz.prog 29 149 3 24:=⟨by kernel_rfl,by decide⟩
instance :Typ Tryz.prog 31 2 true:=⟨by kernel_rfl⟩
instance :Zer Tryz.prog 31 [.v (.slice none 0 0), .v (.slice none 0 0)]:=⟨[.slice none 0 0, .slice none 0 0],by kernel_rfl,rfl,rfl⟩
instance :Plc Tryz.prog 31 [(0,1),(1,1)]:=⟨by kernel_rfl⟩
instance :Fld Tryz.prog 31 0 0 1:=⟨by kernel_rfl⟩
instance :Fld Tryz.prog 31 1 1 1:=⟨by kernel_rfl⟩
instance :Typ Tryz.prog 36 2 true:=⟨by kernel_rfl⟩
instance :Zer Tryz.prog 36 [.v (.int .i64 0), .v (.int .i64 0)]:=⟨[.int .i64 0, .int .i64 0],by kernel_rfl,rfl,rfl⟩
instance :Plc Tryz.prog 36 [(0,1),(1,1)]:=⟨by kernel_rfl⟩
instance :Fld Tryz.prog 36 0 0 1:=⟨by kernel_rfl⟩
instance :Fld Tryz.prog 36 1 1 1:=⟨by kernel_rfl⟩
instance :Typ Tryz.prog 38 6 true:=⟨by kernel_rfl⟩
instance :Zer Tryz.prog 38 [.v (.int .i64 0), .v (.int .i64 0), .v (.int .i64 0), .v (.string ⟨#[]⟩), .v (.int .i64 0), .v (.int .i64 0)]:=⟨[.int .i64 0, .int .i64 0, .int .i64 0, .string ⟨#[]⟩, .int .i64 0, .int .i64 0],by kernel_rfl,rfl,rfl⟩
instance :Plc Tryz.prog 38 [(0,1),(1,2),(3,1),(4,2)]:=⟨by kernel_rfl⟩
instance :Fld Tryz.prog 38 0 0 1:=⟨by kernel_rfl⟩
instance :Fld Tryz.prog 38 1 1 2:=⟨by kernel_rfl⟩
instance :Fld Tryz.prog 38 2 3 1:=⟨by kernel_rfl⟩
instance :Fld Tryz.prog 38 3 4 2:=⟨by kernel_rfl⟩
instance :Typ Tryz.prog 39 1 false:=⟨by kernel_rfl⟩
instance :Typ Tryz.prog 52 13 true:=⟨by kernel_rfl⟩
instance :Zer Tryz.prog 52 [.v (.string ⟨#[]⟩), .v (.string ⟨#[]⟩), .v (.int .i64 0), .v (.int .i64 0), .v (.string ⟨#[]⟩), .v (.int .i64 0), .v (.int .i64 0), .v (.int .i64 0), .v (.int .i64 0), .v (.int .i64 0), .v (.int .i64 0), .v (.int .i64 0), .v (.int .i64 0)]:=⟨[.string ⟨#[]⟩, .string ⟨#[]⟩, .int .i64 0, .int .i64 0, .string ⟨#[]⟩, .int .i64 0, .int .i64 0, .int .i64 0, .int .i64 0, .int .i64 0, .int .i64 0, .int .i64 0, .int .i64 0],by kernel_rfl,rfl,rfl⟩
instance :Plc Tryz.prog 52 [(0,1),(1,1),(2,2),(4,1),(5,2),(7,1),(8,1),(9,1),(10,1),(11,1),(12,1)]:=⟨by kernel_rfl⟩
instance :Fld Tryz.prog 52 4 5 2:=⟨by kernel_rfl⟩
instance :Fld Tryz.prog 52 5 7 1:=⟨by kernel_rfl⟩
instance :Fld Tryz.prog 52 6 8 1:=⟨by kernel_rfl⟩
instance :Fld Tryz.prog 52 7 9 1:=⟨by kernel_rfl⟩
instance :Fld Tryz.prog 52 8 10 1:=⟨by kernel_rfl⟩
instance :Fld Tryz.prog 52 9 11 1:=⟨by kernel_rfl⟩
instance :Typ Tryz.prog 53 1 false:=⟨by kernel_rfl⟩
instance :Elm Tryz.prog 53 61 14 144:=⟨by kernel_rfl,by decide⟩
instance :Typ Tryz.prog 55 3 true:=⟨by kernel_rfl⟩
instance :Zer Tryz.prog 55 [.v (.int .i64 0), .v (.int .i64 0), .v (.slice none 0 0)]:=⟨[.int .i64 0, .int .i64 0, .slice none 0 0],by kernel_rfl,rfl,rfl⟩
instance :Plc Tryz.prog 55 [(0,1),(1,1),(2,1)]:=⟨by kernel_rfl⟩
instance :Fld Tryz.prog 55 0 0 1:=⟨by kernel_rfl⟩
instance :Fld Tryz.prog 55 1 1 1:=⟨by kernel_rfl⟩
instance :Fld Tryz.prog 55 2 2 1:=⟨by kernel_rfl⟩
instance :Typ Tryz.prog 57 5 true:=⟨by kernel_rfl⟩
instance :Zer Tryz.prog 57 [.v (.slice none 0 0), .v (.slice none 0 0), .v (.int .i64 0), .v (.int .i64 0), .v (.slice none 0 0)]:=⟨[.slice none 0 0, .slice none 0 0, .int .i64 0, .int .i64 0, .slice none 0 0],by kernel_rfl,rfl,rfl⟩
instance :Plc Tryz.prog 57 [(0,2),(2,3)]:=⟨by kernel_rfl⟩
instance :Fld Tryz.prog 57 0 0 2:=⟨by kernel_rfl⟩
instance :Fld Tryz.prog 57 1 2 3:=⟨by kernel_rfl⟩
instance :Typ Tryz.prog 59 1 false:=⟨by kernel_rfl⟩
instance :Elm Tryz.prog 59 243 4 32:=⟨by kernel_rfl,by decide⟩
instance :Typ Tryz.prog 61 14 true:=⟨by kernel_rfl⟩
instance :Zer Tryz.prog 61 [.v (.int .i64 0), .v (.int .i64 0), .v (.int .i64 0), .v (.int .i64 0), .v (.int .i64 0), .v (.int .i64 0), .v (.int .i64 0), .v (.int .i64 0), .v (.int .i64 0), .v (.int .i64 0), .v (.string ⟨#[]⟩), .v (.string ⟨#[]⟩), .v (.slice none 0 0), .v (.bool false)]:=⟨[.int .i64 0, .int .i64 0, .int .i64 0, .int .i64 0, .int .i64 0, .int .i64 0, .int .i64 0, .int .i64 0, .int .i64 0, .int .i64 0, .string ⟨#[]⟩, .string ⟨#[]⟩, .slice none 0 0, .bool false],by kernel_rfl,rfl,rfl⟩
instance :Plc Tryz.prog 61 [(0,1),(1,1),(2,1),(3,1),(4,1),(5,1),(6,1),(7,1),(8,2),(10,1),(11,1),(12,1),(13,1)]:=⟨by kernel_rfl⟩
instance :Fld Tryz.prog 61 0 0 1:=⟨by kernel_rfl⟩
instance :Fld Tryz.prog 61 3 3 1:=⟨by kernel_rfl⟩
instance :Fld Tryz.prog 61 5 5 1:=⟨by kernel_rfl⟩
instance :Fld Tryz.prog 61 8 8 2:=⟨by kernel_rfl⟩
instance :Fld Tryz.prog 61 11 12 1:=⟨by kernel_rfl⟩
instance :Typ Tryz.prog 62 4 true:=⟨by kernel_rfl⟩
instance :Zer Tryz.prog 62 [.v (.int .i64 0), .v (.int .i64 0), .v (.int .i64 0), .v (.int .i64 0)]:=⟨[.int .i64 0, .int .i64 0, .int .i64 0, .int .i64 0],by kernel_rfl,rfl,rfl⟩
instance :Plc Tryz.prog 62 [(0,1),(1,1),(2,1),(3,1)]:=⟨by kernel_rfl⟩
instance :Typ Tryz.prog 63 1 false:=⟨by kernel_rfl⟩
instance :Elm Tryz.prog 63 9 1 16:=⟨by kernel_rfl,by decide⟩
instance :Typ Tryz.prog 65 7 true:=⟨by kernel_rfl⟩
instance :Zer Tryz.prog 65 [.v (.int .i64 0), .v (.int .i64 0), .v (.int .i64 0), .v (.int .i64 0), .v (.int .i64 0), .v (.slice none 0 0), .v (.slice none 0 0)]:=⟨[.int .i64 0, .int .i64 0, .int .i64 0, .int .i64 0, .int .i64 0, .slice none 0 0, .slice none 0 0],by kernel_rfl,rfl,rfl⟩
instance :Plc Tryz.prog 65 [(0,1),(1,4),(5,1),(6,1)]:=⟨by kernel_rfl⟩
instance :Fld Tryz.prog 65 0 0 1:=⟨by kernel_rfl⟩
instance :Fld Tryz.prog 65 1 1 4:=⟨by kernel_rfl⟩
instance :Fld Tryz.prog 65 2 5 1:=⟨by kernel_rfl⟩
instance :Fld Tryz.prog 65 3 6 1:=⟨by kernel_rfl⟩
instance :Typ Tryz.prog 66 1 false:=⟨by kernel_rfl⟩
instance :Elm Tryz.prog 66 52 13 128:=⟨by kernel_rfl,by decide⟩
instance :Typ Tryz.prog 69 1 false:=⟨by kernel_rfl⟩
instance :Elm Tryz.prog 69 79 7 64:=⟨by kernel_rfl,by decide⟩
instance :Typ Tryz.prog 71 5 true:=⟨by kernel_rfl⟩
instance :Zer Tryz.prog 71 [.v (.int .i64 0), .v (.int .i64 0), .v (.int .i64 0), .v (.slice none 0 0), .v (.slice none 0 0)]:=⟨[.int .i64 0, .int .i64 0, .int .i64 0, .slice none 0 0, .slice none 0 0],by kernel_rfl,rfl,rfl⟩
instance :Plc Tryz.prog 71 [(0,1),(1,1),(2,1),(3,1),(4,1)]:=⟨by kernel_rfl⟩
instance :Fld Tryz.prog 71 0 0 1:=⟨by kernel_rfl⟩
instance :Fld Tryz.prog 71 2 2 1:=⟨by kernel_rfl⟩
instance :Fld Tryz.prog 71 3 3 1:=⟨by kernel_rfl⟩
instance :Fld Tryz.prog 71 4 4 1:=⟨by kernel_rfl⟩
instance :Typ Tryz.prog 79 7 true:=⟨by kernel_rfl⟩
instance :Zer Tryz.prog 79 [.v (.int .i64 0), .v (.int .i64 0), .v (.string ⟨#[]⟩), .v (.int .i64 0), .v (.int .i64 0), .v (.int .i64 0), .v (.int .i64 0)]:=⟨[.int .i64 0, .int .i64 0, .string ⟨#[]⟩, .int .i64 0, .int .i64 0, .int .i64 0, .int .i64 0],by kernel_rfl,rfl,rfl⟩
instance :Plc Tryz.prog 79 [(0,2),(2,1),(3,2),(5,2)]:=⟨by kernel_rfl⟩
instance :Fld Tryz.prog 79 0 0 2:=⟨by kernel_rfl⟩
instance :Fld Tryz.prog 79 1 2 1:=⟨by kernel_rfl⟩
instance :Fld Tryz.prog 79 2 3 2:=⟨by kernel_rfl⟩
instance :Fld Tryz.prog 79 3 5 2:=⟨by kernel_rfl⟩
instance :Typ Tryz.prog 99 1 false:=⟨by kernel_rfl⟩
instance :Elm Tryz.prog 99 138 2 24:=⟨by kernel_rfl,by decide⟩
instance :Typ Tryz.prog 101 8 true:=⟨by kernel_rfl⟩
instance :Zer Tryz.prog 101 [.v (.int .i64 0), .v (.int .i64 0), .v (.int .i64 0), .v (.int .i64 0), .v (.int .i64 0), .v (.int .i64 0), .v (.string ⟨#[]⟩), .v (.slice none 0 0)]:=⟨[.int .i64 0, .int .i64 0, .int .i64 0, .int .i64 0, .int .i64 0, .int .i64 0, .string ⟨#[]⟩, .slice none 0 0],by kernel_rfl,rfl,rfl⟩
instance :Plc Tryz.prog 101 [(0,1),(1,1),(2,1),(3,1),(4,1),(5,1),(6,1),(7,1)]:=⟨by kernel_rfl⟩
instance :Fld Tryz.prog 101 0 0 1:=⟨by kernel_rfl⟩
instance :Fld Tryz.prog 101 1 1 1:=⟨by kernel_rfl⟩
instance :Fld Tryz.prog 101 2 2 1:=⟨by kernel_rfl⟩
instance :Fld Tryz.prog 101 3 3 1:=⟨by kernel_rfl⟩
instance :Fld Tryz.prog 101 4 4 1:=⟨by kernel_rfl⟩
instance :Fld Tryz.prog 101 5 5 1:=⟨by kernel_rfl⟩
instance :Fld Tryz.prog 101 6 6 1:=⟨by kernel_rfl⟩
instance :Fld Tryz.prog 101 7 7 1:=⟨by kernel_rfl⟩
instance :Zer Tryz.prog 106 [.v (.slice none 0 0), .v (.int .i64 0)]:=⟨[.slice none 0 0, .int .i64 0],by kernel_rfl,rfl,rfl⟩
instance :Plc Tryz.prog 106 [(0,1),(1,1)]:=⟨by kernel_rfl⟩
instance :Fld Tryz.prog 106 0 0 1:=⟨by kernel_rfl⟩
instance :Fld Tryz.prog 106 1 1 1:=⟨by kernel_rfl⟩
instance :Typ Tryz.prog 113 8 true:=⟨by kernel_rfl⟩
instance :Zer Tryz.prog 113 [.v (.int .i64 0), .v (.int .i64 0), .v (.string ⟨#[]⟩), .v (.int .i64 0), .v (.int .i64 0), .v (.bool false), .v (.bool false), .v (.string ⟨#[]⟩)]:=⟨[.int .i64 0, .int .i64 0, .string ⟨#[]⟩, .int .i64 0, .int .i64 0, .bool false, .bool false, .string ⟨#[]⟩],by kernel_rfl,rfl,rfl⟩
instance :Plc Tryz.prog 113 [(0,2),(2,1),(3,2),(5,1),(6,1),(7,1)]:=⟨by kernel_rfl⟩
instance :Fld Tryz.prog 113 0 0 2:=⟨by kernel_rfl⟩
instance :Fld Tryz.prog 113 1 2 1:=⟨by kernel_rfl⟩
instance :Fld Tryz.prog 113 2 3 2:=⟨by kernel_rfl⟩
instance :Fld Tryz.prog 113 3 5 1:=⟨by kernel_rfl⟩
instance :Fld Tryz.prog 113 4 6 1:=⟨by kernel_rfl⟩
instance :Fld Tryz.prog 113 5 7 1:=⟨by kernel_rfl⟩
instance :Typ Tryz.prog 118 1 false:=⟨by kernel_rfl⟩
instance :Elm Tryz.prog 118 101 8 88:=⟨by kernel_rfl,by decide⟩
instance :Typ Tryz.prog 120 2 true:=⟨by kernel_rfl⟩
instance :Zer Tryz.prog 120 [.v (.int .i64 0), .v (.slice none 0 0)]:=⟨[.int .i64 0, .slice none 0 0],by kernel_rfl,rfl,rfl⟩
instance :Plc Tryz.prog 120 [(0,1),(1,1)]:=⟨by kernel_rfl⟩
instance :Fld Tryz.prog 120 0 0 1:=⟨by kernel_rfl⟩
instance :Fld Tryz.prog 120 1 1 1:=⟨by kernel_rfl⟩
instance :Typ Tryz.prog 128 1 false:=⟨by kernel_rfl⟩
instance :Elm Tryz.prog 128 113 8 72:=⟨by kernel_rfl,by decide⟩
instance :Zer Tryz.prog 130 [.v (.slice none 0 0), .v (.slice none 0 0), .v (.int .i64 0), .v (.int .i64 0), .v (.slice none 0 0), .v (.int .i64 0), .v (.int .i64 0), .v (.int .i64 0), .v (.int .i64 0), .v (.int .i64 0), .v (.int .i64 0), .v (.int .i64 0), .v (.int .i64 0), .v (.int .i64 0), .v (.int .i64 0), .v (.string ⟨#[]⟩), .v (.string ⟨#[]⟩), .v (.slice none 0 0), .v (.bool false), .v (.int .i64 0), .v (.int .i64 0), .v (.int .i64 0), .v (.int .i64 0), .v (.int .i64 0), .v (.slice none 0 0), .v (.slice none 0 0), .v (.slice none 0 0), .v (.int .i64 0), .v (.int .i64 0), .v (.int .i64 0), .v (.slice none 0 0), .v (.slice none 0 0)]:=⟨[.slice none 0 0, .slice none 0 0, .int .i64 0, .int .i64 0, .slice none 0 0, .int .i64 0, .int .i64 0, .int .i64 0, .int .i64 0, .int .i64 0, .int .i64 0, .int .i64 0, .int .i64 0, .int .i64 0, .int .i64 0, .string ⟨#[]⟩, .string ⟨#[]⟩, .slice none 0 0, .bool false, .int .i64 0, .int .i64 0, .int .i64 0, .int .i64 0, .int .i64 0, .slice none 0 0, .slice none 0 0, .slice none 0 0, .int .i64 0, .int .i64 0, .int .i64 0, .slice none 0 0, .slice none 0 0],by kernel_rfl,rfl,rfl⟩
instance :Plc Tryz.prog 130 [(0,5),(5,14),(19,7),(26,1),(27,5)]:=⟨by kernel_rfl⟩
instance :Fld Tryz.prog 130 0 0 5:=⟨by kernel_rfl⟩
instance :Fld Tryz.prog 130 1 5 14:=⟨by kernel_rfl⟩
instance :Fld Tryz.prog 130 2 19 7:=⟨by kernel_rfl⟩
instance :Fld Tryz.prog 130 3 26 1:=⟨by kernel_rfl⟩
instance :Fld Tryz.prog 130 4 27 5:=⟨by kernel_rfl⟩
instance :Typ Tryz.prog 138 2 true:=⟨by kernel_rfl⟩
instance :Zer Tryz.prog 138 [.v (.string ⟨#[]⟩), .v (.int .i64 0)]:=⟨[.string ⟨#[]⟩, .int .i64 0],by kernel_rfl,rfl,rfl⟩
instance :Plc Tryz.prog 138 [(0,1),(1,1)]:=⟨by kernel_rfl⟩
instance :Fld Tryz.prog 138 0 0 1:=⟨by kernel_rfl⟩
instance :Fld Tryz.prog 138 1 1 1:=⟨by kernel_rfl⟩
instance :Elm Tryz.prog 140 39 1 8:=⟨by kernel_rfl,by decide⟩
instance :Typ Tryz.prog 149 3 true:=⟨by kernel_rfl⟩
instance :Zer Tryz.prog 149 [.v (.int .i64 0), .v (.int .i64 0), .v (.int .i64 0)]:=⟨[.int .i64 0, .int .i64 0, .int .i64 0],by kernel_rfl,rfl,rfl⟩
instance :Plc Tryz.prog 149 [(0,1),(1,2)]:=⟨by kernel_rfl⟩
instance :Fld Tryz.prog 149 0 0 1:=⟨by kernel_rfl⟩
instance :Fld Tryz.prog 149 1 1 2:=⟨by kernel_rfl⟩
instance :Typ Tryz.prog 167 11 true:=⟨by kernel_rfl⟩
instance :Zer Tryz.prog 167 [.v (.slice none 0 0), .v (.slice none 0 0), .v (.slice none 0 0), .v (.int .i64 0), .v (.int .i64 0), .v (.int .i64 0), .v (.int .i64 0), .v (.string ⟨#[]⟩), .v (.bool false), .v (.bool false), .v (.int .i64 0)]:=⟨[.slice none 0 0, .slice none 0 0, .slice none 0 0, .int .i64 0, .int .i64 0, .int .i64 0, .int .i64 0, .string ⟨#[]⟩, .bool false, .bool false, .int .i64 0],by kernel_rfl,rfl,rfl⟩
instance :Plc Tryz.prog 167 [(0,2),(2,1),(3,2),(5,2),(7,1),(8,1),(9,1),(10,1)]:=⟨by kernel_rfl⟩
instance :Fld Tryz.prog 167 0 0 2:=⟨by kernel_rfl⟩
instance :Fld Tryz.prog 167 1 2 1:=⟨by kernel_rfl⟩
instance :Fld Tryz.prog 167 2 3 2:=⟨by kernel_rfl⟩
instance :Fld Tryz.prog 167 3 5 2:=⟨by kernel_rfl⟩
instance :Fld Tryz.prog 167 4 7 1:=⟨by kernel_rfl⟩
instance :Fld Tryz.prog 167 5 8 1:=⟨by kernel_rfl⟩
instance :Fld Tryz.prog 167 6 9 1:=⟨by kernel_rfl⟩
instance :Fld Tryz.prog 167 7 10 1:=⟨by kernel_rfl⟩
instance :Typ Tryz.prog 181 5 true:=⟨by kernel_rfl⟩
instance :Zer Tryz.prog 181 [.v (.string ⟨#[]⟩), .v (.int .i64 0), .v (.int .i64 0), .v (.int .i64 0), .v (.int .i64 0)]:=⟨[.string ⟨#[]⟩, .int .i64 0, .int .i64 0, .int .i64 0, .int .i64 0],by kernel_rfl,rfl,rfl⟩
instance :Plc Tryz.prog 181 [(0,1),(1,1),(2,1),(3,1),(4,1)]:=⟨by kernel_rfl⟩
instance :Fld Tryz.prog 181 0 0 1:=⟨by kernel_rfl⟩
instance :Fld Tryz.prog 181 1 1 1:=⟨by kernel_rfl⟩
instance :Fld Tryz.prog 181 2 2 1:=⟨by kernel_rfl⟩
instance :Fld Tryz.prog 181 3 3 1:=⟨by kernel_rfl⟩
instance :Fld Tryz.prog 181 4 4 1:=⟨by kernel_rfl⟩
instance :Elm Tryz.prog 206 181 5 48:=⟨by kernel_rfl,by decide⟩
instance :Zer Tryz.prog 243 [.v (.int .i64 0), .v (.int .i64 0), .v (.int .i64 0), .v (.int .i64 0)]:=⟨[.int .i64 0, .int .i64 0, .int .i64 0, .int .i64 0],by kernel_rfl,rfl,rfl⟩
instance :Plc Tryz.prog 243 [(0,1),(1,2),(3,1)]:=⟨by kernel_rfl⟩
instance :Fld Tryz.prog 243 0 0 1:=⟨by kernel_rfl⟩
instance :Fun Tryz.prog 11:=⟨by kernel_rfl⟩
instance :Fun Tryz.prog 12:=⟨by kernel_rfl⟩
instance :Fun Tryz.prog 13:=⟨by kernel_rfl⟩
instance :Fun Tryz.prog 14:=⟨by kernel_rfl⟩
instance :Fun Tryz.prog 15:=⟨by kernel_rfl⟩
instance :Fun Tryz.prog 16:=⟨by kernel_rfl⟩
instance :Fun Tryz.prog 17:=⟨by kernel_rfl⟩
instance :Fun Tryz.prog 18:=⟨by kernel_rfl⟩
instance :Fun Tryz.prog 20:=⟨by kernel_rfl⟩
instance :Fun Tryz.prog 21:=⟨by kernel_rfl⟩
instance :Fun Tryz.prog 22:=⟨by kernel_rfl⟩
instance :Fun Tryz.prog 23:=⟨by kernel_rfl⟩
instance :Fun Tryz.prog 24:=⟨by kernel_rfl⟩
instance :Fun Tryz.prog 32:=⟨by kernel_rfl⟩
instance :Fun Tryz.prog 33:=⟨by kernel_rfl⟩
instance :Fun Tryz.prog 34:=⟨by kernel_rfl⟩
instance :Fun Tryz.prog 35:=⟨by kernel_rfl⟩
instance :Fun Tryz.prog 38:=⟨by kernel_rfl⟩
instance :Fun Tryz.prog 39:=⟨by kernel_rfl⟩
instance :Fun Tryz.prog 41:=⟨by kernel_rfl⟩
instance :Fun Tryz.prog 43:=⟨by kernel_rfl⟩
instance :Fun Tryz.prog 44:=⟨by kernel_rfl⟩
instance :Fun Tryz.prog 45:=⟨by kernel_rfl⟩
instance :Fun Tryz.prog 46:=⟨by kernel_rfl⟩
instance :Fun Tryz.prog 47:=⟨by kernel_rfl⟩
instance :Fun Tryz.prog 48:=⟨by kernel_rfl⟩
instance :Fun Tryz.prog 49:=⟨by kernel_rfl⟩
instance :Fun Tryz.prog 50:=⟨by kernel_rfl⟩
instance :Fun Tryz.prog 51:=⟨by kernel_rfl⟩
instance :Fun Tryz.prog 52:=⟨by kernel_rfl⟩
instance :Fun Tryz.prog 53:=⟨by kernel_rfl⟩
instance :Fun Tryz.prog 54:=⟨by kernel_rfl⟩
instance :Fun Tryz.prog 55:=⟨by kernel_rfl⟩
instance :Fun Tryz.prog 56:=⟨by kernel_rfl⟩
instance :Fun Tryz.prog 57:=⟨by kernel_rfl⟩
instance :Fun Tryz.prog 58:=⟨by kernel_rfl⟩
instance :Fun Tryz.prog 59:=⟨by kernel_rfl⟩
instance :Fun Tryz.prog 61:=⟨by kernel_rfl⟩
instance :Fun Tryz.prog 63:=⟨by kernel_rfl⟩
instance :Fun Tryz.prog 64:=⟨by kernel_rfl⟩
instance :Fun Tryz.prog 65:=⟨by kernel_rfl⟩
instance :Fun Tryz.prog 66:=⟨by kernel_rfl⟩
instance :Fun Tryz.prog 67:=⟨by kernel_rfl⟩
instance :Fun Tryz.prog 68:=⟨by kernel_rfl⟩
instance :Fun Tryz.prog 70:=⟨by kernel_rfl⟩
instance :Fun Tryz.prog 71:=⟨by kernel_rfl⟩
instance :Fun Tryz.prog 72:=⟨by kernel_rfl⟩
instance :Fun Tryz.prog 73:=⟨by kernel_rfl⟩
instance :Fun Tryz.prog 74:=⟨by kernel_rfl⟩
instance :Fun Tryz.prog 75:=⟨by kernel_rfl⟩
instance :Fun Tryz.prog 76:=⟨by kernel_rfl⟩
instance :Fun Tryz.prog 77:=⟨by kernel_rfl⟩
instance :Fun Tryz.prog 78:=⟨by kernel_rfl⟩
instance :Fun Tryz.prog 79:=⟨by kernel_rfl⟩
instance :Fun Tryz.prog 81:=⟨by kernel_rfl⟩
instance :Fun Tryz.prog 83:=⟨by kernel_rfl⟩
instance :Fun Tryz.prog 84:=⟨by kernel_rfl⟩
instance :Fun Tryz.prog 85:=⟨by kernel_rfl⟩
instance :Fun Tryz.prog 86:=⟨by kernel_rfl⟩
instance :Fun Tryz.prog 87:=⟨by kernel_rfl⟩
instance :Fun Tryz.prog 88:=⟨by kernel_rfl⟩
instance :Fun Tryz.prog 91:=⟨by kernel_rfl⟩
instance :Fun Tryz.prog 92:=⟨by kernel_rfl⟩
instance :Fun Tryz.prog 93:=⟨by kernel_rfl⟩
instance :Fun Tryz.prog 94:=⟨by kernel_rfl⟩
instance :Fun Tryz.prog 95:=⟨by kernel_rfl⟩
instance :Fun Tryz.prog 96:=⟨by kernel_rfl⟩
instance :Fun Tryz.prog 97:=⟨by kernel_rfl⟩
instance :Fun Tryz.prog 98:=⟨by kernel_rfl⟩
instance :Fun Tryz.prog 99:=⟨by kernel_rfl⟩
instance :Fun Tryz.prog 100:=⟨by kernel_rfl⟩
instance :Fun Tryz.prog 101:=⟨by kernel_rfl⟩
instance :Fun Tryz.prog 102:=⟨by kernel_rfl⟩
instance :Fun Tryz.prog 103:=⟨by kernel_rfl⟩
instance :Fun Tryz.prog 105:=⟨by kernel_rfl⟩
instance :Fun Tryz.prog 107:=⟨by kernel_rfl⟩
instance :Fun Tryz.prog 108:=⟨by kernel_rfl⟩
instance :Fun Tryz.prog 109:=⟨by kernel_rfl⟩
instance :Fun Tryz.prog 110:=⟨by kernel_rfl⟩
instance :Fun Tryz.prog 111:=⟨by kernel_rfl⟩
instance :Fun Tryz.prog 112:=⟨by kernel_rfl⟩
instance :Fun Tryz.prog 113:=⟨by kernel_rfl⟩
instance :Fun Tryz.prog 114:=⟨by kernel_rfl⟩
instance :Fun Tryz.prog 117:=⟨by kernel_rfl⟩
instance :Fun Tryz.prog 122:=⟨by kernel_rfl⟩
instance :Fun Tryz.prog 124:=⟨by kernel_rfl⟩
instance :Fun Tryz.prog 125:=⟨by kernel_rfl⟩
instance :Fun Tryz.prog 126:=⟨by kernel_rfl⟩
instance :Fun Tryz.prog 127:=⟨by kernel_rfl⟩
instance :Fun Tryz.prog 128:=⟨by kernel_rfl⟩
instance :Fun Tryz.prog 132:=⟨by kernel_rfl⟩
instance :Fun Tryz.prog 134:=⟨by kernel_rfl⟩
instance :Fun Tryz.prog 135:=⟨by kernel_rfl⟩
instance :Fun Tryz.prog 136:=⟨by kernel_rfl⟩
instance :Fun Tryz.prog 137:=⟨by kernel_rfl⟩
instance :Fun Tryz.prog 138:=⟨by kernel_rfl⟩
instance :Fun Tryz.prog 139:=⟨by kernel_rfl⟩
instance :Fun Tryz.prog 140:=⟨by kernel_rfl⟩
instance :Fun Tryz.prog 141:=⟨by kernel_rfl⟩
instance :Fun Tryz.prog 142:=⟨by kernel_rfl⟩
instance :Fun Tryz.prog 143:=⟨by kernel_rfl⟩
instance :Fun Tryz.prog 145:=⟨by kernel_rfl⟩
instance :Fun Tryz.prog 147:=⟨by kernel_rfl⟩
instance :Fun Tryz.prog 148:=⟨by kernel_rfl⟩
instance :Fun Tryz.prog 149:=⟨by kernel_rfl⟩
instance :Fun Tryz.prog 150:=⟨by kernel_rfl⟩
instance :Fun Tryz.prog 151:=⟨by kernel_rfl⟩
instance :Fun Tryz.prog 152:=⟨by kernel_rfl⟩
instance :Fun Tryz.prog 153:=⟨by kernel_rfl⟩
instance :Fun Tryz.prog 154:=⟨by kernel_rfl⟩
instance :Fun Tryz.prog 155:=⟨by kernel_rfl⟩
instance :Fun Tryz.prog 156:=⟨by kernel_rfl⟩
instance :Fun Tryz.prog 177:=⟨by kernel_rfl⟩
instance :Fun Tryz.prog 181:=⟨by kernel_rfl⟩
instance :Fun Tryz.prog 182:=⟨by kernel_rfl⟩
instance :Fun Tryz.prog 187:=⟨by kernel_rfl⟩
instance :Fun Tryz.prog 188:=⟨by kernel_rfl⟩
end Go.Proofs.YtbglbmnhgbgelaaGreatDoor
namespace Go.Proofs.YtbglbmnhgbgelaaGreatDoor
abbrev AB:=ByteArray
abbrev A8:=Int×Int
abbrev B9:=AB×Int
abbrev D6:=Int×A8
abbrev CR:=A8×AB×A8×A8
structure Nod where
 ino:Int
 kind:Int
 mode:Int
 uid:Int
 gid:Int
 parent:Int
 target:AB
 entries:List B9
structure Dvc where
 next:Int
 nodes:List Nod
abbrev AR:=List Dvc
structure Spc where
 files:AR
 mounts:List D6
def Nod.zero:Nod:=⟨0,0,0,0,0,0,⟨#[]⟩,[]⟩
def J4{α:Type}(p:α→Bool)(l:List α):Int:=
 match l.findIdx? p with
 |some i=>(i:Int)
 |none=> -1
def En{α:Type}(l:List α)(i:Int):Option α:=if i<0 then none else l[i.toNat]?
theorem J5{α:Type}(l:List α)(k:Nat):En l (k:Int)=l[k]?:=by
 simp[En,show¬((k:Int)<0) by omega]
theorem MW{α:Type}{l:List α}{i:Int}(h:i<0∨(l.length:Int)≤i):En l i=none:=by
 unfold En
 split
 ·rfl
 rw[List.getElem?_eq_none];omega
theorem Vc{α:Type}{l:List α}{i:Int}{x:α}(h:En l i=some x):0≤i∧i<l.length∧l[i.toNat]?=some x:=by
 unfold En at h
 split at h
 ·cases h
 have:=(Ac.1 h).1
 exact⟨by omega,by omega,h⟩
theorem R7{α:Type}{p:α→Bool}{l:List α}{m:Nat}{x:α}(hx:l[m]?=some x)(hp:p x=true)(h:∀j y,j<m→l[j]?=some y→p y=false):l.findIdx? p=some m:=by
 have hl:m<l.length:=(Ac.1 hx).1
 rw[List.findIdx?_eq_some_iff_getElem]
 refine⟨hl,by rw[(Ac.1 hx).2];exact hp,fun j hj=>?_⟩
 have:=h j l[j] hj (BA _)
 simp[this]
theorem R8{α:Type}{p:α→Bool}{l:List α}{m:Nat}{x:α}(hx:l[m]?=some x)(hp:p x=true)(h:∀j y,j<m→l[j]?=some y→p y=false):J4 p l=m:=by
 unfold J4
 rw[R7 hx hp h]
theorem Vd{α:Type}{p:α→Bool}{l:List α}(h:∀j y,j<l.length→l[j]?=some y→p y=false):J4 p l= -1:=by
 unfold J4
 rw[List.findIdx?_eq_none_iff.2]
 intro x hx
 obtain⟨j,hj,rfl⟩:=List.mem_iff_getElem.1 hx
 exact h j _ hj (BA hj)
theorem EQ{α:Type}{P:α→Prop}{l:List α}{m:Nat}{x:α}(hx:l[m]?=some x)(h:∀j y,j<m→l[j]?=some y→P y)(hp:P x):∀j y,j<m+1→l[j]?=some y→P y:=by
 intro j y hj hy
 by_cases e:j=m
 ·subst e
  rw[hx]at hy
  cases hy
  exact hp
 exact h j y (by omega) hy
def ER(f:AR)(at_:A8):Int:=
 match En f at_.1 with
 |none=> -1
 |some d=>J4 (fun n:Nod=>n.ino==at_.2) d.nodes
def BY(f:AR)(at_:A8):Option Nod:=
 match En f at_.1 with
 |none=>none
 |some d=>d.nodes.find? (fun n:Nod=>n.ino==at_.2)
theorem R9{α:Type}{p:α→Bool}{l:List α}:(l.findIdx? p).bind (fun i=>l[i]?)=l.find? p:=by
 cases h:l.findIdx? p with
 |none=>
   rw[List.findIdx?_eq_none_iff]at h
   simp only[Option.bind_none]
   exact(List.find?_eq_none.2 (fun x hx=>by simp[h x hx])).symm
 |some i=>
   obtain⟨hi,hp,hf⟩:=List.findIdx?_eq_some_iff_getElem.1 h
   simp only[Option.bind_some,BA hi]
   exact(List.find?_eq_some_iff_getElem.2 ⟨hp,i,hi,rfl,fun j hj=>by simpa using hf j hj⟩).symm
theorem GT(f:AR)(at_:A8):(ER f at_= -1∧BY f at_=none)∨
    ∃(k i:Nat) (d:Dvc) (n:Nod),at_.1=k∧f[k]?=some d∧d.nodes[i]?=some n∧n.ino=at_.2∧ER f at_=i∧BY f at_=some n:=by
 unfold ER BY
 cases h:En f at_.1 with
 |none=>exact .inl ⟨rfl,rfl⟩
 |some d=>
   obtain⟨h0,h1,h2⟩:=Vc h
   simp only[←R9]
   unfold J4
   cases hi:d.nodes.findIdx? (fun n:Nod=>n.ino==at_.2)with
   |none=>exact .inl ⟨rfl,rfl⟩
   |some i=>
     obtain⟨hl,hp,_⟩:=List.findIdx?_eq_some_iff_getElem.1 hi
     exact .inr ⟨at_.1.toNat,i,d,d.nodes[i],by omega,h2,BA hl,by simpa using hp,rfl,by simp⟩
theorem MX(a b:AB):(a.toList==b.toList)=decide (a=b):=by
 rw[ByteArray.toList_eq,ByteArray.toList_eq,Bool.eq_iff_iff]
 simp only[beq_iff_eq,decide_eq_true_eq]
 constructor
 ·intro h
  cases a with
  |mk a=>
    cases b with
    |mk b=>exact congrArg ByteArray.mk (Array.toList_inj.1 h)
 intro h
 rw[h]
def GU(c:UInt8):Bool:= !((c.toNat:Int)==0)&& !((c.toNat:Int)==47)
def D5(s:AB):Bool:=
 if s.size<1∨12<s.size then false else if(s.toList==[46])=true then false else if(s.toList==[46,46])=true then false else s.data.toList.all GU
def J6(s:AB):Bool:=s.data.toList.all (fun c=> !((c.toNat:Int)==0))&&decide (1≤s.size)&&decide (s.size≤128)
theorem RA{p:UInt8→Bool}{s:AB}(h:∀j (hj:j<s.size),p s[j]=true):s.data.toList.all p=true:=by
 rw[List.all_eq_true]
 intro c hc
 obtain⟨j,hj,rfl⟩:=List.mem_iff_getElem.1 hc
 exact h j (by simpa using hj)
theorem OC{p:UInt8→Bool}{s:AB}{j:Nat}(hj:j<s.size)(h:p s[j]=false):s.data.toList.all p=false:=by
 rw[List.all_eq_false]
 refine⟨s[j],?_,by simp[h]⟩
 have:s[j]=s.data.toList[j]'(by simpa using hj):=rfl
 rw[this]
 exact List.getElem_mem _
theorem RB{p:UInt8→Bool}{s:AB}{m:Nat}(hm:m<s.size)(h:∀j (hj:j<s.size),j<m→p s[j]=true)(hp:p s[m]=true):∀j (hj:j<s.size),j<m+1→p s[j]=true:=by
 intro j hj hlt
 by_cases e:j=m
 ·subst e;exact hp
 exact h j hj (by omega)
def Ai(f:AR)(at_:A8):Bool:=
 match BY f at_ with
 |none=>false
 |some n=>n.kind==2
def C8(f:AR)(dir:A8)(name:AB):Int:=
 match BY f dir with
 |none=>2
 |some n=>if n.kind=2 then(if D5 name then 0 else 22)else 20
def GV(f:AR)(dir:A8):Bool:=
 match BY f dir with
 |none=>false
 |some n=>decide (12≤n.entries.length)
def Gy(f:AR)(dir:A8):Bool:=
 match BY f dir with
 |none=>true
 |some n=>decide (n.entries.length=0)
def AG(f:AR)(dir:A8)(name:AB):A8×Int:=
 match BY f dir with
 |none=>((0,0),2)
 |some n=>if n.kind=2 then
     match n.entries.find? (fun e:B9=>decide (e.1=name))with
     |none=>((0,0),2)
     |some e=>((dir.1,e.2),0)
   else((0,0),20)
def ED(n:Nod):Bool:=
 if n.kind<1∨3<n.kind∨n.mode<0∨511<n.mode∨n.uid<0∨4294967295<n.uid∨n.gid<0∨4294967295<n.gid then false
 else if n.kind=3 then J6 n.target else n.target.toList.isEmpty
end Go.Proofs.YtbglbmnhgbgelaaGreatDoor
namespace Go.Proofs.YtbglbmnhgbgelaaGreatDoor
def EE(a b:AB):Bool:=Op.bytesLess a.toList b.toList
def Eo(name:AB)(ino:Int):Bool→List B9→List B9
 |done,[]=>if done then[]else[(name,ino)]
 |done,e::r=>
   (if !done&& !EE e.1 name then[(name,ino)]else[])++((if e.1=name then[]else[e])++Eo name ino (done|| !EE e.1 name) r)
def CD(es:List B9)(name:AB)(ino:Int):List B9:=Eo name ino (ino==0) es
def CM(ino:Int)(es:List B9):Nat:=es.countP fun e:B9=>e.2==ino
def BO(ino:Int)(ns:List Nod):Nat:=CM ino (ns.flatMap fun n=>n.entries)
def FQ(f:AR)(at_:A8):Nat:=
 match BY f at_,En f at_.1 with
 |some _,some d=>BO at_.2 d.nodes
 |_,_=>0
theorem OD{ino:Int}{es:List B9}{k:Nat}{e:B9}(h:es[k]?=some e):CM ino (es.take (k+1))=CM ino (es.take k)+(if e.2==ino then 1 else 0):=by
 unfold CM
 rw[List.take_add_one,h,List.countP_append]
 simp[List.countP_cons]
theorem Ve(ino:Int)(es:List B9):CM ino es≤es.length:=List.countP_le_length
theorem Vf{ino:Int}{ns:List Nod}{m:Nat}{n:Nod}(h:ns[m]?=some n):BO ino (ns.take (m+1))=BO ino (ns.take m)+CM ino n.entries:=by
 unfold BO CM
 rw[List.take_add_one,h,List.flatMap_append,List.countP_append]
 simp
def CN(ino:Int)(ns:List Nod):List Nod:=ns.filter fun n=>n.ino != ino
def MY:Nod:=⟨1,2,493,0,0,1,⟨#[]⟩,[]⟩
def Jf:Dvc:=⟨2,[MY]⟩
def Dz(n:Int):AR×Int:=if n<1∨3<n then([],50)else(List.replicate n.toNat Jf,0)
abbrev Dh:=AR×List CR×Int
def Ds(n:Nod)(next dirIno:Int):Nod:=⟨next,n.kind,n.mode,n.uid,n.gid,if n.kind=2 then dirIno else 0,n.target,[]⟩
end Go.Proofs.YtbglbmnhgbgelaaGreatDoor
namespace Go.Proofs.YtbglbmnhgbgelaaGreatDoor
open Go.RowKit
theorem CX{α:Type}(enc:α→List AV){l:List α}{k:Nat}(h:(k:Int)<((l.map enc).length:Int)):k<l.length∧∃x,l[k]?=some x∧(l.map enc)[k]?=some (enc x)∧(l.take (k+1)).map enc=(l.take k).map enc++[enc x]:=by
 have hk:k<l.length:=by simpa using h
 refine⟨hk,l[k],BA hk,by simp[hk],?_⟩
 rw[List.take_succ_eq_append_getElem hk,List.map_append]
 rfl
theorem Cl{α:Type}(enc:α→List AV){l:List α}{k:Nat}(hk:k≤l.length)(h:¬(k:Int)<((l.map enc).length:Int)):k=l.length:=by
 simp at h
 omega
theorem vb{a b:Bool}(h:a=b):AV.v (.bool a)=AV.v (.bool b):=by rw[h]
theorem vi{k:IntKind}{a b:Int}(h:a=b):AV.v (.int k a)=AV.v (.int k b):=by rw[h]
def AA(x:A8):List AV:=[.v (.int .i64 x.1), .v (.int .i64 x.2)]
def C9(e:B9):List AV:=[.v (.string e.1), .v (.int .i64 e.2)]
def Aa(n:Nod):List AV:=[.v (.int .i64 n.ino), .v (.int .i64 n.kind), .v (.int .i64 n.mode), .v (.int .i64 n.uid), .v (.int .i64 n.gid), .v (.int .i64 n.parent), .v (.string n.target), .sl 2 (n.entries.map C9) none]
def BX(d:Dvc):List AV:=[.v (.int .i64 d.next), .sl 8 (d.nodes.map Aa) none]
def Ah(f:AR):List AV:=[.sl 2 (f.map BX) none]
structure FlsB(f:AR):Prop where
 few:f.length≤1000
 nodes:∀d∈f,d.nodes.length≤1000
 ents:∀d∈f,∀n∈d.nodes,n.entries.length≤1000
theorem OE{f:AR}{a:A8}{k:Nat}{d:Dvc}(hk:a.1=(k:Int))(hd:f[k]?=some d):ER f a=J4 (fun n:Nod=>n.ino==a.2) d.nodes:=by
 unfold ER;rw[hk,J5,hd]
def AT(f:AR)(a:A8):Nod:=(BY f a).getD Nod.zero
def Cb(f:AR)(a:A8):Bool:=(BY f a).isSome
theorem FR(f:AR)(a:A8):Ai f a=(Cb f a&&decide ((AT f a).kind=2)):=by
 unfold Ai Cb AT
 cases BY f a<;>simp[Nm]
theorem Kn{f:AR}(hf:FlsB f)(a:A8):(AT f a).entries.length≤1000:=by
 rcases GT f a with⟨-,h⟩|⟨k,i,d,n, -,h1,h2, -, -,h⟩
 ·simp[AT,h,Nod.zero]
 simp only[AT,h,Option.getD_some]
 exact hf.ents d (Ak h1) n (Ak h2)
section
theorem Gz(f:AR)(a:A8)(hf:FlsB f):AFn Tryz.prog 78 [.agg (Ah f), .agg (AA a)] (fun r=>r= .v (.int .i64 (ER f a))):=by
 refine enter Tryz.func78 rfl rfl rfl rfl rfl 0 rfl ?_
 refine w_ (b_ (h:=b_ (h:=a_ (h:=e_ (q_ (w_ (f_ (h:=l_ (h:=BH (h:=m_ (h:=?_)))))))))))
 refine Ar false rfl rfl (fun hb1=>?_) (fun hb1=>?_)
 ·have hc1:=bp hb1
  refine A3 (h:=A3 (h:=A3 (h:=A3 (h:=A3 (h:=A3 (h:=AX (h:=e_ (C1 (h:=w_ (a_ (h:=e_ (A6 (A9 (?_))))))))))))))
  refine AD ?_
  exact vi (by unfold ER;rw[MW (.inl hc1)])
 have hc1:=bp hb1
 refine f_ (h:=l_ (h:=f_ (h:=l_ (h:=n_ (h:=Fj (h:=Af (h:=e_ (?_))))))))
 refine A7 rfl (fun hb2=>?_) (fun hb2=>?_)
 ·have hc2:=bp hb2
  refine w_ (a_ (h:=e_ (A6 (A9 (?_)))))
  refine AD ?_
  exact vi (by unfold ER;rw[MW (.inr (by rw[List.length_map]at hc2;exact hc2))])
 have hc2:=bp hb2
 obtain⟨k,hk⟩:=Int.eq_ofNat_of_zero_le (show 0≤a.1 by omega)
 rw[hk]at hc2
 obtain⟨-,d,hd,hrow, -⟩:=CX BX (l:=f) (k:=k) (by omega)
 have hdn:=hf.nodes d (Ak hd)
 refine AM (w_ (f_ (h:=l_ (h:=f_ (h:=l_ (h:=?_))))))
 refine A4 rfl (Ck (n:=k) rfl rfl hk hrow ?_)
 refine f_ (h:=l_ (h:=a_ (h:=e_ (q_ (w_ (a_ (h:=e_ (Al (?_)))))))))
 refine Bd (fun m s=>∃j:Nat,j≤d.nodes.length∧m=d.nodes.length - j∧(∀i y,i<j→d.nodes[i]?=some y→(y.ino==a.2)=false)∧s=⟨look [(3, .bp 1 0),(5, .sl 8 (d.nodes.map Aa) none),(6, .v (.int .i64 (j:Int)))],⟨[Ah f,AA a],[]⟩⟩) (d.nodes.length) ((wk 2 0)) (⟨0,by omega,rfl,fun i y hi=>by omega,rfl⟩) ?_
 rintro m s ⟨j,hj,rfl,ha,rfl⟩
 refine q_ (w_ (m_ (h:=m_ (h:=n_ (h:=BH (h:=e_ (?_)))))))
 refine A7 rfl (fun hb3=>?_) (fun hb3=>?_)
 ·have hc3:=bp hb3
  obtain⟨hlt,n,hy,hrow2, -⟩:=CX Aa hc3
  refine AM (q_ (Al (q_ (DV 8 (h:=AN 0 (h:=AN 1 (h:=DN 2 (h:=AJ 3 (h:=AF 4 (h:=AJ 5 (h:=AF 6 (h:=GS 7 (h:=z_ (h:=t_ (?_)))))))))))))))
  refine A7 rfl (fun hb4=>?_) (fun hb4=>?_)
  ·have hc4:=bp hb4
   refine w_ (m_ (h:=a_ (h:=e_ (A6 (Ag (A9 (A9 (Ag (A9 (?_))))))))))
   refine AD ?_
   exact vi (by rw[OE hk hd];exact(R8 hy (by simpa using hc4) ha).symm)
  have hc4:=bp hb4
  refine B4 (Ay (t_ (AP (m_ (h:=B2 (h:=a_ (h:=AO (?_))))))))
  refine AE ?_
  refine⟨_,_,?_,⟨j+1,by omega,rfl,EQ hy ha (by simpa using hc4),rfl⟩,(wk 2 0)⟩
  omega
 have hc3:=bp hb3
 have e:=Cl Aa hj hc3
 subst e
 refine BK (Aj (Aj (BL (t_ (w_ (a_ (h:=e_ (A6 (?_)))))))))
 refine AD ?_
 exact vi (by rw[OE hk hd];exact(Vd (fun i y hi hy=>ha i y hi hy)).symm)
theorem DW(f:AR)(a:A8)(hf:FlsB f):AFn Tryz.prog 70 [.agg (Ah f), .agg (AA a)] (fun r=>r= .tup [.agg (Aa (AT f a)), .v (.bool (Cb f a))]):=by
 refine enter Tryz.func70 rfl rfl rfl rfl rfl 0 rfl ?_
 refine w_ (b_ (h:=b_ (h:=AY (h:=a_ (h:=e_ (w_ (l_ (h:=l_ (h:=?_)))))))))
 refine A4 rfl (AK (Gz f a hf) ?_)
 rintro r rfl
 refine a_ (h:=e_ (q_ (w_ (m_ (h:=BH (h:=e_ (?_)))))))
 refine A7 rfl (fun hb1=>?_) (fun hb1=>?_)
 ·have hc1:=bp hb1
  have e:BY f a=none:=by
   rcases GT f a with h|⟨k,i,d,n, -, -, -, -,h, -⟩
   ·exact h.2
   exfalso;omega
  refine w_ (AU (h:=s_ (h:=a_ (h:=e_ (A6 (A9 (?_)))))))
  refine Aw (r:= .tup [.agg (Aa (AT f a)), .v (.bool (Cb f a))]) none (h5:=?_) (h6:=⟨rfl,rfl,rfl⟩)
  rw[show AT f a=Nod.zero by simp[AT,e],show Cb f a=false by simp[Cb,e]]
  exact(by repeat (first|exact LeA.refl _|exact LeA.nil _|exact LeL.refl _|refine LeA.agg ?_|refine LeA.tup ?_|exact LeL.nil|refine LeL.cons ?_ ?_|exact LeA.any _))
 have hc1:=bp hb1
 obtain⟨k,i,d,n,g1,g2,g3,g4,g5,g6⟩:=(GT f a).resolve_left (fun h=>by omega)
 rw[g5]
 have hr1:(f.map BX)[k]?=some (BX d):=by rw[List.getElem?_map,g2];rfl
 have hr2:(d.nodes.map Aa)[i]?=some (Aa n):=by rw[List.getElem?_map,g3];rfl
 have hen:=hf.ents d (Ak g2) n (Ak g3)
 refine AM (w_ (f_ (h:=l_ (h:=f_ (h:=l_ (h:=?_))))))
 refine A4 rfl (Ck (n:=k) rfl rfl g1 hr1 ?_)
 refine f_ (h:=l_ (h:=m_ (h:=?_)))
 refine A4 rfl (Ck (n:=i) rfl rfl rfl hr2 ?_)
 refine l_ (h:=AY (h:=s_ (h:=e_ (w_ (f_ (h:=l_ (h:=?_)))))))
 first|refine A4 rfl (EM rfl rfl rfl (by simp;omega) (by repeat constructor) ?_)|refine A4 rfl (GQ rfl rfl (by simp;omega) (by repeat constructor) ?_)
 refine f_ (h:=s_ (h:=e_ (w_ (l_ (h:=s_ (h:=a_ (h:=e_ (A6 (?_)))))))))
 refine AD ?_
 rw[show AT f a=n by simp[AT,g6],show Cb f a=true by simp[Cb,g6]]
 rfl
theorem Fl(f:AR)(a:A8)(hf:FlsB f):AFn Tryz.prog 41 [.agg (Ah f), .agg (AA a)] (fun r=>r= .v (.bool (Ai f a))):=by
 refine enter Tryz.func41 rfl rfl rfl rfl rfl 0 rfl ?_
 refine w_ (b_ (h:=b_ (h:=a_ (h:=e_ (w_ (l_ (h:=l_ (h:=?_))))))))
 refine A4 rfl (AK (DW f a hf) ?_)
 rintro r rfl
 refine m_ (h:=x_ (h:=x_ (h:=AY (h:=s_ (h:=a_ (h:=e_ (w_ (m_ (h:=m_ (h:=?_))))))))))
 refine Ar true rfl rfl (fun hb1=>?_) (fun hb1=>?_)
 ·have hc1:=bp hb1
  refine f_ (h:=l_ (h:=AW (h:=AX (h:=a_ (h:=e_ (A6 (?_)))))))
  refine AD ?_
  exact vb (by rw[FR];simp[*])
 have hc1:=bp hb1
 refine A3 (h:=A3 (h:=A3 (h:=Af (h:=a_ (h:=e_ (A6 (?_)))))))
 refine AD ?_
 exact vb (by rw[FR];simp[*])
end
theorem G6{α:Type}{p:α→Bool}{l:List α}{j:Nat}{x:α}(hx:l[j]?=some x)(hp:p x=true)(h:∀i y,i<j→l[i]?=some y→p y=false):l.find? p=some x:=by
 have:=R7 hx hp h
 rw[←R9,this]
 simpa using hx
theorem G7{α:Type}{p:α→Bool}{l:List α}(h:∀i y,i<l.length→l[i]?=some y→p y=false):l.find? p=none:=by
 rw[List.find?_eq_none]
 intro x hx
 obtain⟨i,hi,rfl⟩:=List.mem_iff_getElem.1 hx
 simp[h i _ hi (BA hi)]
theorem RC{f:AR}{a:A8}(h:Cb f a=true):BY f a=some (AT f a):=by
 unfold Cb at h
 unfold AT
 cases hn:BY f a with
 |none=>rw[hn]at h;cases h
 |some n=>rfl
theorem RD{f:AR}{a:A8}(h:Cb f a=false):BY f a=none:=by
 unfold Cb at h
 cases hn:BY f a with
 |none=>rfl
 |some n=>rw[hn]at h;cases h
section
theorem G8(f:AR)(a:A8)(name:AB)(hf:FlsB f):AFn Tryz.prog 38 [.agg (Ah f), .agg (AA a), .v (.string name)] (fun r=>r= .tup [.agg (AA (AG f a name).1), .v (.int .i64 (AG f a name).2)]):=by
 have hen:=Kn hf a
 refine enter Tryz.func38 rfl rfl rfl rfl rfl 0 rfl ?_
 refine w_ (b_ (h:=b_ (h:=AY (h:=a_ (h:=e_ (w_ (l_ (h:=l_ (h:=?_)))))))))
 refine A4 rfl (AK (DW f a hf) ?_)
 rintro r rfl
 refine m_ (h:=x_ (h:=x_ (h:=AY (h:=s_ (h:=a_ (h:=e_ (q_ (w_ (m_ (h:=BR (h:=e_ (?_))))))))))))
 refine A7 rfl (fun hb1=>?_) (fun hb1=>?_)
 ·have hc1:=bp hb1
  have e:=RD hc1
  refine w_ (AU (h:=s_ (h:=a_ (h:=e_ (A6 (A9 (?_)))))))
  refine AD ?_
  rw[show AG f a name=((0,0),2) by simp[AG,e]]
  rfl
 have hc1:=bp hb1
 have e:=RC hc1
 refine AM (q_ (w_ (f_ (h:=l_ (h:=BN (h:=e_ (?_)))))))
 refine A7 rfl (fun hb2=>?_) (fun hb2=>?_)
 ·have hc2:=bp hb2
  refine w_ (AU (h:=s_ (h:=a_ (h:=e_ (A6 (A9 (?_)))))))
  refine AD ?_
  rw[show AG f a name=((0,0),20) by simp[AG,e,hc2]]
  rfl
 have hc2:=bp hb2
 refine AM (q_ (w_ (a_ (h:=e_ (Al (?_))))))
 refine Bd (fun m s=>∃j:Nat,j≤(AT f a).entries.length∧m=(AT f a).entries.length - j∧(∀i y,i<j→(AT f a).entries[i]?=some y→decide (y.1=name)=false)∧s=⟨look [(2, .v (.string name)),(4, .bp 1 0),(6, .bp 2 0),(8, .bp 3 0),(10, .v (.int .i64 (j:Int)))],⟨[Ah f,AA a,[.v (.int .i64 0), .v (.int .i64 0)],Aa (AT f a)],[]⟩⟩) ((AT f a).entries.length) ((wk 4 0)) (⟨0,by omega,rfl,fun i y hi=>by omega,rfl⟩) ?_
 rintro m s ⟨j,hj,rfl,ha,rfl⟩
 refine q_ (w_ (m_ (h:=f_ (h:=l_ (h:=n_ (h:=BH (h:=e_ (?_))))))))
 refine A7 rfl (fun hb3=>?_) (fun hb3=>?_)
 ·have hc3:=bp hb3
  obtain⟨hlt,x,hy,hrow, -⟩:=CX C9 hc3
  refine AM (q_ (Al (w_ (f_ (h:=l_ (h:=m_ (h:=i_ (h:=f_ (h:=l_ (h:=m_ (h:=AW (h:=e_ (?_)))))))))))))
  refine A7 rfl (fun hb4=>?_) (fun hb4=>?_)
  ·have hc4:=bp hb4
   refine q_ (BM ([(0,Ah f),(1,AA a),(3,Aa (AT f a))]) 11 (h:=AJ 0 (h:=AF 1 (h:=AJ 2 (h:=AF 3 (h:=AN 4 (h:=DN 5 (h:=AJ 6 (h:=AF 7 (h:=EP 8 (h:=?_)))))))))))
   refine Az 9 rfl (Av rfl rfl rfl rfl rfl rfl (by repeat constructor) (by repeat constructor) ?_)
   refine o_ (h:=B6 10 (h:=z_ (h:=t_ (A6 (Ag (A9 (A9 (Ag (A9 (?_))))))))))
   refine AD ?_
   rw[show AG f a name=((a.1,x.2),0) by simp only[AG,e];rw[if_pos (by omega),G6 hy (by simpa using hc4) ha]]
   rfl
  have hc4:=bp hb4
  refine B4 (Ay (t_ (AP (m_ (h:=B2 (h:=a_ (h:=AO (?_))))))))
  refine AE ?_
  refine⟨_,_,?_,⟨j+1,by omega,rfl,EQ hy ha (by simpa using hc4),rfl⟩,(wk 4 0)⟩
  omega
 have hc3:=bp hb3
 have e3:=Cl C9 hj hc3
 subst e3
 refine BK (Aj (Aj (BL (t_ (w_ (AU (h:=s_ (h:=a_ (h:=e_ (A6 (?_)))))))))))
 refine AD ?_
 rw[show AG f a name=((0,0),2) by simp only[AG,e];rw[if_pos (by omega),G7 ha]]
 rfl
end
theorem GW{P:Program}{ev:Operand→Option AV}{h:AH}{R:AV→AH→Prop}{d:Option Tmp}{ty:TypeId}{pos:String}{af:Array Edge}{gd:Option (Nat×Bool)}{T:TypeId}{x ix:Operand}{s:ByteArray}{n:Nat}{k:IntKind}{i:Int}(hu:P.underlying T=some .string)
    (hx:ev x=some (.v (.string s))) (hi:ev ix=some (.v (.int k i))) (hn:i=(n:Int)) (hlt:n<s.size) (hR:R (.v (.int .u8 (s[n].toNat:Int))) h):AStep P ⟨d, .index T x ix,ty,pos,af,gd⟩ ev h R:=by
 refine Ce (fun _ G w ec _ he=>?_) hR
 have h1:=he x (by simp[Op.operands]) _ hx
 have h2:=he ix (by simp[Op.operands]) _ hi
 simp only[rep]at h1 h2
 subst hn
 refine⟨.int .u8 (s[n].toNat:Int),?_,by simp only[rep]⟩
 have e:s[n]?=some s[n]:=getElem?_pos s n hlt
 simp[execOp,h1,h2,Instr.index,asIntOf,run_underlying hu,e]
theorem H0(s:AB):D5 s=if s.size<1∨12<s.size then false else if s=⟨#[46]⟩then false else if s=⟨#[46,46]⟩then false else s.data.toList.all GU:=by
 unfold D5
 have e1:=MX s ⟨#[46]⟩
 have e2:=MX s ⟨#[46,46]⟩
 rw[show(⟨#[46]⟩:ByteArray).toList=[46] by rw[ByteArray.toList_eq]]at e1
 rw[show(⟨#[46,46]⟩:ByteArray).toList=[46,46] by rw[ByteArray.toList_eq]]at e2
 rw[e1,e2]
 simp only[decide_eq_true_eq]
theorem Vg{c:UInt8}(h1:¬(c.toNat:Int)=0)(h2:¬(c.toNat:Int)=47):GU c=true:=by
 unfold GU;simp;omega
section
theorem OF(s:AB)(hs:s.size≤100000):AFn Tryz.prog 61 [.v (.string s)] (fun r=>r= .v (.bool (D5 s))):=by
 refine enter Tryz.func61 rfl rfl rfl rfl rfl 0 rfl ?_
 refine w_ (a_ (h:=e_ (q_ (w_ (m_ (h:=n_ (h:=BH (h:=m_ (h:=?_)))))))))
 refine Ar false rfl rfl (fun hb1=>?_) (fun hb1=>?_)
 ·have hc1:=bp hb1
  refine A3 (h:=A3 (h:=A3 (h:=AX (h:=m_ (h:=A3 (h:=A3 (h:=AX (h:=m_ (h:=A3 (h:=A3 (h:=AX (h:=e_ (C1 (h:=w_ (a_ (h:=e_ (A6 (A9 (?_)))))))))))))))))))
  refine AD ?_
  exact vb (by rw[H0,if_pos (by omega)])
 have hc1:=bp hb1
 refine m_ (h:=n_ (h:=CC (h:=Af (h:=m_ (h:=?_)))))
 refine Ar false rfl rfl (fun hb2=>?_) (fun hb2=>?_)
 ·have hc2:=bp hb2
  refine A3 (h:=A3 (h:=AX (h:=m_ (h:=A3 (h:=A3 (h:=AX (h:=e_ (C1 (h:=w_ (a_ (h:=e_ (A6 (A9 (?_))))))))))))))
  refine AD ?_
  exact vb (by rw[H0,if_pos (by omega)])
 have hc2:=bp hb2
 refine m_ (h:=AW (h:=Af (h:=m_ (h:=?_))))
 refine Ar false rfl rfl (fun hb3=>?_) (fun hb3=>?_)
 ·have hc3:=bp hb3
  refine A3 (h:=A3 (h:=AX (h:=e_ (C1 (h:=w_ (a_ (h:=e_ (A6 (A9 (?_))))))))))
  refine AD ?_
  exact vb (by rw[H0,if_neg (by omega),if_pos hc3])
 have hc3:=bp hb3
 refine m_ (h:=AW (h:=Af (h:=e_ (?_))))
 refine A7 rfl (fun hb4=>?_) (fun hb4=>?_)
 ·have hc4:=bp hb4
  refine w_ (a_ (h:=e_ (A6 (A9 (?_)))))
  refine AD ?_
  exact vb (by rw[H0,if_neg (by omega),if_neg hc3,if_pos hc4])
 have hc4:=bp hb4
 refine AM (q_ (w_ (a_ (h:=e_ (Al (?_))))))
 refine Bd (fun m t=>∃j:Nat,j≤s.size∧m=s.size - j∧(∀i (hi:i<s.size),i<j→GU s[i]=true)∧t=⟨look [(0, .v (.string s)),(3, .v (.int .i64 (j:Int)))],⟨[],[]⟩⟩) (s.size) ((wk 0 0)) (⟨0,by omega,rfl,fun i _ hi=>by omega,rfl⟩) ?_
 rintro m t ⟨j,hj,rfl,ha,rfl⟩
 refine q_ (w_ (m_ (h:=m_ (h:=n_ (h:=BH (h:=e_ (?_)))))))
 refine A7 rfl (fun hb5=>?_) (fun hb5=>?_)
 ·have hc5:=bp hb5
  have hlt:j<s.size:=by omega
  refine AM (q_ (Al (w_ (m_ (h:=m_ (h:=?_))))))
  refine A4 rfl (GW (n:=j) Tryz.underlying9 rfl rfl rfl hlt ?_)
  refine AW (h:=m_ (h:=?_))
  refine Ar false rfl rfl (fun hb6=>?_) (fun hb6=>?_)
  ·have hc6:=bp hb6
   refine A3 (h:=A3 (h:=A3 (h:=A3 (h:=AX (h:=e_ (C1 (h:=w_ (a_ (h:=e_ (A6 (Ag (A9 (A9 (Ag (A9 (?_))))))))))))))))
   refine AD ?_
   exact vb (by rw[H0,if_neg (by omega),if_neg hc3,if_neg hc4,OC hlt (by unfold GU;simp[hc6])])
  have hc6:=bp hb6
  refine m_ (h:=m_ (h:=?_))
  refine B0 (GW (n:=j) Tryz.underlying9 rfl rfl rfl hlt ?_)
  refine AW (h:=Af (h:=e_ (?_)))
  refine A7 rfl (fun hb7=>?_) (fun hb7=>?_)
  ·have hc7:=bp hb7
   refine w_ (a_ (h:=e_ (A6 (Ag (A9 (A9 (Ag (A9 (?_)))))))))
   refine AD ?_
   exact vb (by rw[H0,if_neg (by omega),if_neg hc3,if_neg hc4,OC hlt (by unfold GU;simp[hc7])])
  have hc7:=bp hb7
  refine B4 (Ay (t_ (AP (m_ (h:=B2 (h:=a_ (h:=AO (?_))))))))
  refine AE ?_
  refine⟨_,_,?_,⟨j+1,by omega,rfl,RB hlt ha (Vg hc6 hc7),rfl⟩,(wk 0 0)⟩
  omega
 have hc5:=bp hb5
 obtain rfl:j=s.size:=by omega
 refine BK (Aj (Aj (BL (t_ (w_ (a_ (h:=e_ (A6 (?_)))))))))
 refine AD ?_
 exact vb (by rw[H0,if_neg (by omega),if_neg hc3,if_neg hc4,RA (fun i hi=>ha i hi hi)])
end
theorem Vh(f:AR)(a:A8):GV f a=decide (12≤(AT f a).entries.length):=by
 unfold GV AT
 cases BY f a<;>simp[Nod.zero]
theorem Vi(f:AR)(a:A8):Gy f a=decide ((AT f a).entries.length=0):=by
 unfold Gy AT
 cases BY f a<;>simp[Nod.zero]
theorem Vj{f:AR}{a:A8}{k:Nat}{d:Dvc}{n:Nod}(hk:a.1=(k:Int))(hd:f[k]?=some d)(hn:BY f a=some n):FQ f a=BO a.2 d.nodes:=by
 unfold FQ
 rw[hn,hk,J5,hd]
section
theorem Vk(s:AB)(hs:s.size≤100000):AFn Tryz.prog 125 [.v (.string s)] (fun r=>r= .v (.bool (J6 s))):=by
 refine enter Tryz.func125 rfl rfl rfl rfl rfl 0 rfl ?_
 refine w_ (a_ (h:=e_ (q_ (w_ (a_ (h:=e_ (Al (?_))))))))
 refine Bd (fun m t=>∃j:Nat,j≤s.size∧m=s.size - j∧(∀i (hi:i<s.size),i<j→(!((s[i].toNat:Int)==0))=true)∧t=⟨look [(0, .v (.string s)),(3, .v (.int .i64 (j:Int)))],⟨[],[]⟩⟩) (s.size) ((wk 0 0)) (⟨0,by omega,rfl,fun i _ hi=>by omega,rfl⟩) ?_
 rintro m t ⟨j,hj,rfl,ha,rfl⟩
 refine q_ (w_ (m_ (h:=m_ (h:=n_ (h:=BH (h:=e_ (?_)))))))
 refine A7 rfl (fun hb1=>?_) (fun hb1=>?_)
 ·have hc1:=bp hb1
  have hlt:j<s.size:=by omega
  refine AM (q_ (Al (w_ (m_ (h:=m_ (h:=?_))))))
  refine A4 rfl (GW (n:=j) Tryz.underlying9 rfl rfl rfl hlt ?_)
  refine AW (h:=e_ (?_))
  refine A7 rfl (fun hb2=>?_) (fun hb2=>?_)
  ·have hc2:=bp hb2
   refine w_ (a_ (h:=e_ (A6 (Ag (A9 (A9 (Ag (A9 (?_)))))))))
   refine AD ?_
   exact vb (by unfold J6;rw[OC hlt (by simp[hc2])];simp)
  have hc2:=bp hb2
  refine B4 (Ay (t_ (AP (m_ (h:=B2 (h:=a_ (h:=AO (?_))))))))
  refine AE ?_
  refine⟨_,_,?_,⟨j+1,by omega,rfl,RB (p:=fun c=> !((c.toNat:Int)==0)) hlt ha (by simpa using hc2),rfl⟩,(wk 0 0)⟩
  omega
 have hc1:=bp hb1
 obtain rfl:j=s.size:=by omega
 have hal:=RA (p:=fun c=> !((c.toNat:Int)==0)) (fun i hi=>ha i hi hi)
 refine BK (Aj (Aj (BL (t_ (w_ (m_ (h:=n_ (h:=Fj (h:=m_ (h:=?_))))))))))
 refine Ar true rfl rfl (fun hb3=>?_) (fun hb3=>?_)
 ·have hc3:=bp hb3
  refine m_ (h:=n_ (h:=Km (h:=AX (h:=a_ (h:=e_ (A6 (?_)))))))
  refine AD ?_
  exact vb (by unfold J6;rw[hal,Bool.eq_iff_iff];simp;omega)
 have hc3:=bp hb3
 refine A3 (h:=A3 (h:=A3 (h:=Af (h:=a_ (h:=e_ (A6 (?_)))))))
 refine AD ?_
 exact vb (by unfold J6;rw[hal,Bool.eq_iff_iff];simp;omega)
theorem Jg(f:AR)(a:A8)(name:AB)(hf:FlsB f)(hs:name.size≤100000):AFn Tryz.prog 71 [.agg (Ah f), .agg (AA a), .v (.string name)] (fun r=>r= .v (.int .i64 (C8 f a name))):=by
 refine enter Tryz.func71 rfl rfl rfl rfl rfl 0 rfl ?_
 refine w_ (b_ (h:=b_ (h:=a_ (h:=e_ (w_ (l_ (h:=l_ (h:=?_))))))))
 refine A4 rfl (AK (DW f a hf) ?_)
 rintro r rfl
 refine m_ (h:=x_ (h:=x_ (h:=AY (h:=s_ (h:=a_ (h:=e_ (q_ (w_ (m_ (h:=BR (h:=e_ (?_))))))))))))
 refine A7 rfl (fun hb1=>?_) (fun hb1=>?_)
 ·have hc1:=bp hb1
  have e:=RD hc1
  refine w_ (a_ (h:=e_ (A6 (A9 (?_)))))
  refine AD ?_
  exact vi (by simp[C8,e])
 have hc1:=bp hb1
 have e:=RC hc1
 refine AM (q_ (w_ (f_ (h:=l_ (h:=BN (h:=e_ (?_)))))))
 refine A7 rfl (fun hb2=>?_) (fun hb2=>?_)
 ·have hc2:=bp hb2
  refine w_ (a_ (h:=e_ (A6 (A9 (?_)))))
  refine AD ?_
  exact vi (by simp[C8,e,hc2])
 have hc2:=bp hb2
 refine AM (q_ (w_ (m_ (h:=?_))))
 refine A4 rfl (AK (OF name hs) ?_)
 rintro r rfl
 refine BR (h:=e_ (?_))
 refine A7 rfl (fun hb3=>?_) (fun hb3=>?_)
 ·have hc3:=bp hb3
  refine w_ (a_ (h:=e_ (A6 (A9 (?_)))))
  refine AD ?_
  exact vi (by simp only[C8,e];rw[if_pos (by omega),hc3];rfl)
 have hc3:=bp hb3
 refine AM (w_ (a_ (h:=e_ (A6 (?_)))))
 refine AD ?_
 exact vi (by simp only[C8,e];rw[if_pos (by omega),hc3];rfl)
theorem OG(f:AR)(a:A8)(hf:FlsB f):AFn Tryz.prog 75 [.agg (Ah f), .agg (AA a)] (fun r=>r= .v (.bool (GV f a))):=by
 refine enter Tryz.func75 rfl rfl rfl rfl rfl 0 rfl ?_
 refine w_ (b_ (h:=b_ (h:=a_ (h:=e_ (w_ (l_ (h:=l_ (h:=?_))))))))
 refine A4 rfl (AK (DW f a hf) ?_)
 rintro r rfl
 refine m_ (h:=x_ (h:=x_ (h:=AY (h:=s_ (h:=a_ (h:=e_ (w_ (f_ (h:=l_ (h:=n_ (h:=Fj (h:=a_ (h:=e_ (A6 (?_)))))))))))))))
 refine AD ?_
 exact vb (by rw[Vh,Bool.eq_iff_iff];simp;omega)
theorem RE(f:AR)(a:A8)(hf:FlsB f):AFn Tryz.prog 74 [.agg (Ah f), .agg (AA a)] (fun r=>r= .v (.bool (Gy f a))):=by
 refine enter Tryz.func74 rfl rfl rfl rfl rfl 0 rfl ?_
 refine w_ (b_ (h:=b_ (h:=a_ (h:=e_ (w_ (l_ (h:=l_ (h:=?_))))))))
 refine A4 rfl (AK (DW f a hf) ?_)
 rintro r rfl
 refine m_ (h:=x_ (h:=x_ (h:=AY (h:=s_ (h:=a_ (h:=e_ (w_ (f_ (h:=l_ (h:=n_ (h:=AW (h:=a_ (h:=e_ (A6 (?_)))))))))))))))
 refine AD ?_
 exact vb (by rw[Vi,Bool.eq_iff_iff];simp)
theorem RF(n:Nod)(hs:n.target.size≤100000):AFn Tryz.prog 86 [.agg (Aa n)] (fun r=>r= .v (.bool (ED n))):=by
 have ee:n.target.toList.isEmpty=decide (n.target=⟨#[]⟩):=by
  rw[←MX n.target ⟨#[]⟩,show(⟨#[]⟩:ByteArray).toList=[] by rw[ByteArray.toList_eq]]
  cases n.target.toList<;>rfl
 refine enter Tryz.func86 rfl rfl rfl rfl rfl 0 rfl ?_
 refine w_ (b_ (h:=a_ (h:=e_ (q_ (?_)))))
 refine Gu (⟨look [(1, .bp 0 0),(40, .v (.bool (decide (n.kind<1∨3<n.kind∨n.mode<0∨511<n.mode∨n.uid<0∨4294967295<n.uid∨n.gid<0∨4294967295<n.gid))))],⟨[Aa n],[]⟩⟩) ?_ ?_
 ·skip
  refine AP (f_ (h:=l_ (h:=BH (h:=m_ (h:=?_)))))
  refine Ar false rfl rfl (fun hb1=>?_) (fun hb1=>?_)
  ·have hc1:=bp hb1
   refine A3 (h:=A3 (h:=A3 (h:=AX (h:=m_ (h:=A3 (h:=A3 (h:=A3 (h:=AX (h:=m_ (h:=A3 (h:=A3 (h:=A3 (h:=AX (h:=m_ (h:=A3 (h:=A3 (h:=A3 (h:=AX (h:=m_ (h:=A3 (h:=A3 (h:=A3 (h:=AX (h:=?_))))))))))))))))))))))))
   refine m_ (h:=A3 (h:=A3 (h:=A3 (h:=AX (h:=m_ (h:=A3 (h:=A3 (h:=A3 (h:=AX (h:=AO (?_)))))))))))
   refine AE ?_
   first|(exfalso;first|contradiction|omega)|exact As 1 0 rfl rfl rfl rfl (by repeat (first|exact Sub.nil|refine Sub.cons _ _ _ rfl rfl ?_|refine Sub.any _ _ ?_|refine Sub.sl _ _ _ _ _ rfl ?_|refine Sub.slnil _ _ _ rfl ?_|(apply Sub.of;(focus exact rfl);(focus exact LeA.of_eq (vb (by rw[Bool.eq_iff_iff];simp;try omega)));(focus exact rfl))))
  have hc1:=bp hb1
  refine f_ (h:=l_ (h:=CC (h:=Af (h:=m_ (h:=?_)))))
  refine Ar false rfl rfl (fun hb2=>?_) (fun hb2=>?_)
  ·have hc2:=bp hb2
   refine A3 (h:=A3 (h:=A3 (h:=AX (h:=m_ (h:=A3 (h:=A3 (h:=A3 (h:=AX (h:=m_ (h:=A3 (h:=A3 (h:=A3 (h:=AX (h:=m_ (h:=A3 (h:=A3 (h:=A3 (h:=AX (h:=m_ (h:=A3 (h:=A3 (h:=A3 (h:=AX (h:=?_))))))))))))))))))))))))
   refine m_ (h:=A3 (h:=A3 (h:=A3 (h:=AX (h:=AO (?_))))))
   refine AE ?_
   first|(exfalso;first|contradiction|omega)|exact As 1 0 rfl rfl rfl rfl (by repeat (first|exact Sub.nil|refine Sub.cons _ _ _ rfl rfl ?_|refine Sub.any _ _ ?_|refine Sub.sl _ _ _ _ _ rfl ?_|refine Sub.slnil _ _ _ rfl ?_|(apply Sub.of;(focus exact rfl);(focus exact LeA.of_eq (vb (by rw[Bool.eq_iff_iff];simp;try omega)));(focus exact rfl))))
  have hc2:=bp hb2
  refine f_ (h:=l_ (h:=BH (h:=Af (h:=m_ (h:=?_)))))
  refine Ar false rfl rfl (fun hb3=>?_) (fun hb3=>?_)
  ·have hc3:=bp hb3
   refine A3 (h:=A3 (h:=A3 (h:=AX (h:=m_ (h:=A3 (h:=A3 (h:=A3 (h:=AX (h:=m_ (h:=A3 (h:=A3 (h:=A3 (h:=AX (h:=m_ (h:=A3 (h:=A3 (h:=A3 (h:=AX (h:=m_ (h:=A3 (h:=A3 (h:=A3 (h:=AX (h:=?_))))))))))))))))))))))))
   refine AO (?_)
   refine AE ?_
   first|(exfalso;first|contradiction|omega)|exact As 1 0 rfl rfl rfl rfl (by repeat (first|exact Sub.nil|refine Sub.cons _ _ _ rfl rfl ?_|refine Sub.any _ _ ?_|refine Sub.sl _ _ _ _ _ rfl ?_|refine Sub.slnil _ _ _ rfl ?_|(apply Sub.of;(focus exact rfl);(focus exact LeA.of_eq (vb (by rw[Bool.eq_iff_iff];simp;try omega)));(focus exact rfl))))
  have hc3:=bp hb3
  refine f_ (h:=l_ (h:=CC (h:=Af (h:=m_ (h:=?_)))))
  refine Ar false rfl rfl (fun hb4=>?_) (fun hb4=>?_)
  ·have hc4:=bp hb4
   refine A3 (h:=A3 (h:=A3 (h:=AX (h:=m_ (h:=A3 (h:=A3 (h:=A3 (h:=AX (h:=m_ (h:=A3 (h:=A3 (h:=A3 (h:=AX (h:=m_ (h:=A3 (h:=A3 (h:=A3 (h:=AX (h:=AO (?_))))))))))))))))))))
   refine AE ?_
   first|(exfalso;first|contradiction|omega)|exact As 1 0 rfl rfl rfl rfl (by repeat (first|exact Sub.nil|refine Sub.cons _ _ _ rfl rfl ?_|refine Sub.any _ _ ?_|refine Sub.sl _ _ _ _ _ rfl ?_|refine Sub.slnil _ _ _ rfl ?_|(apply Sub.of;(focus exact rfl);(focus exact LeA.of_eq (vb (by rw[Bool.eq_iff_iff];simp;try omega)));(focus exact rfl))))
  have hc4:=bp hb4
  refine f_ (h:=l_ (h:=BH (h:=Af (h:=m_ (h:=?_)))))
  refine Ar false rfl rfl (fun hb5=>?_) (fun hb5=>?_)
  ·have hc5:=bp hb5
   refine A3 (h:=A3 (h:=A3 (h:=AX (h:=m_ (h:=A3 (h:=A3 (h:=A3 (h:=AX (h:=m_ (h:=A3 (h:=A3 (h:=A3 (h:=AX (h:=AO (?_)))))))))))))))
   refine AE ?_
   first|(exfalso;first|contradiction|omega)|exact As 1 0 rfl rfl rfl rfl (by repeat (first|exact Sub.nil|refine Sub.cons _ _ _ rfl rfl ?_|refine Sub.any _ _ ?_|refine Sub.sl _ _ _ _ _ rfl ?_|refine Sub.slnil _ _ _ rfl ?_|(apply Sub.of;(focus exact rfl);(focus exact LeA.of_eq (vb (by rw[Bool.eq_iff_iff];simp;try omega)));(focus exact rfl))))
  have hc5:=bp hb5
  refine f_ (h:=l_ (h:=CC (h:=Af (h:=m_ (h:=?_)))))
  refine Ar false rfl rfl (fun hb6=>?_) (fun hb6=>?_)
  ·have hc6:=bp hb6
   refine A3 (h:=A3 (h:=A3 (h:=AX (h:=m_ (h:=A3 (h:=A3 (h:=A3 (h:=AX (h:=AO (?_))))))))))
   refine AE ?_
   first|(exfalso;first|contradiction|omega)|exact As 1 0 rfl rfl rfl rfl (by repeat (first|exact Sub.nil|refine Sub.cons _ _ _ rfl rfl ?_|refine Sub.any _ _ ?_|refine Sub.sl _ _ _ _ _ rfl ?_|refine Sub.slnil _ _ _ rfl ?_|(apply Sub.of;(focus exact rfl);(focus exact LeA.of_eq (vb (by rw[Bool.eq_iff_iff];simp;try omega)));(focus exact rfl))))
  have hc6:=bp hb6
  refine f_ (h:=l_ (h:=BH (h:=Af (h:=m_ (h:=?_)))))
  refine Ar false rfl rfl (fun hb7=>?_) (fun hb7=>?_)
  ·have hc7:=bp hb7
   refine A3 (h:=A3 (h:=A3 (h:=AX (h:=AO (?_)))))
   refine AE ?_
   first|(exfalso;first|contradiction|omega)|exact As 1 0 rfl rfl rfl rfl (by repeat (first|exact Sub.nil|refine Sub.cons _ _ _ rfl rfl ?_|refine Sub.any _ _ ?_|refine Sub.sl _ _ _ _ _ rfl ?_|refine Sub.slnil _ _ _ rfl ?_|(apply Sub.of;(focus exact rfl);(focus exact LeA.of_eq (vb (by rw[Bool.eq_iff_iff];simp;try omega)));(focus exact rfl))))
  have hc7:=bp hb7
  refine f_ (h:=l_ (h:=CC (h:=Af (h:=AO (?_)))))
  refine AE ?_
  first|(exfalso;first|contradiction|omega)|exact As 1 0 rfl rfl rfl rfl (by repeat (first|exact Sub.nil|refine Sub.cons _ _ _ rfl rfl ?_|refine Sub.any _ _ ?_|refine Sub.sl _ _ _ _ _ rfl ?_|refine Sub.slnil _ _ _ rfl ?_|(apply Sub.of;(focus exact rfl);(focus exact LeA.of_eq (vb (by rw[Bool.eq_iff_iff];simp;try omega)));(focus exact rfl))))
 skip
 refine A7 rfl (fun hb8=>?_) (fun hb8=>?_)
 ·have hc8:=bp hb8
  refine w_ (a_ (h:=e_ (A6 (A9 (?_)))))
  refine AD ?_
  exact vb (by rw[ED,if_pos hc8])
 have hc8:=bp hb8
 refine AM (q_ (w_ (f_ (h:=l_ (h:=AW (h:=e_ (?_)))))))
 refine A7 rfl (fun hb9=>?_) (fun hb9=>?_)
 ·have hc9:=bp hb9
  refine w_ (f_ (h:=l_ (h:=?_)))
  refine A4 rfl (AK (Vk n.target hs) ?_)
  rintro r rfl
  refine a_ (h:=e_ (A6 (A9 (?_))))
  refine AD ?_
  exact vb (by rw[ED,if_neg hc8,if_pos hc9])
 have hc9:=bp hb9
 refine AM (w_ (f_ (h:=l_ (h:=AW (h:=a_ (h:=e_ (A6 (?_))))))))
 refine AD ?_
 exact vb (by rw[ED,if_neg hc8,if_neg hc9,ee])
theorem Vl(f:AR)(a:A8)(hf:FlsB f):AFn Tryz.prog 122 [.agg (Ah f), .agg (AA a)] (fun r=>r= .v (.int .i64 (FQ f a:Int))):=by
 refine enter Tryz.func122 rfl rfl rfl rfl rfl 0 rfl ?_
 refine w_ (b_ (h:=b_ (h:=a_ (h:=e_ (q_ (w_ (l_ (h:=l_ (h:=?_)))))))))
 refine A4 rfl (AK (Gz f a hf) ?_)
 rintro r rfl
 refine BH (h:=e_ (?_))
 refine A7 rfl (fun hb1=>?_) (fun hb1=>?_)
 ·have hc1:=bp hb1
  have e:BY f a=none:=by
   rcases GT f a with h|⟨k,i,d,n, -, -, -, -,h, -⟩
   ·exact h.2
   exfalso;omega
  refine w_ (a_ (h:=e_ (A6 (A9 (?_)))))
  refine AD ?_
  exact vi (by simp[FQ,e])
 have hc1:=bp hb1
 obtain⟨k,i,d,n,g1,g2,g3,g4,g5,g6⟩:=(GT f a).resolve_left (fun h=>by omega)
 have hr1:(f.map BX)[k]?=some (BX d):=by rw[List.getElem?_map,g2];rfl
 have hdn:=hf.nodes d (Ak g2)
 refine AM (w_ (a_ (h:=e_ (w_ (f_ (h:=l_ (h:=f_ (h:=l_ (h:=?_)))))))))
 refine A4 rfl (Ck (n:=k) rfl rfl g1 hr1 ?_)
 refine f_ (h:=l_ (h:=a_ (h:=e_ (q_ (w_ (a_ (h:=e_ (Al (?_)))))))))
 refine Bd (fun m s=>∃j c:Nat,j≤d.nodes.length∧m=d.nodes.length - j∧c=BO a.2 (d.nodes.take j)∧c≤1000 * j∧s=⟨look [(3, .bp 1 0),(5, .v (.int .i64 (c:Int))),(6, .sl 8 (d.nodes.map Aa) none),(7, .v (.int .i64 (j:Int)))],⟨[Ah f,AA a],[]⟩⟩) (d.nodes.length) ((wk 2 0)) (⟨0,0,by omega,rfl,rfl,by omega,rfl⟩) ?_
 rintro m s ⟨j,c,hj,rfl,hcn,hcb,rfl⟩
 refine q_ (w_ (m_ (h:=m_ (h:=n_ (h:=BH (h:=e_ (?_)))))))
 refine A7 rfl (fun hb2=>?_) (fun hb2=>?_)
 ·have hc2:=bp hb2
  obtain⟨hlt,x,hx,hrow, -⟩:=CX Aa hc2
  have hen:=hf.ents d (Ak g2) x (Ak hx)
  refine AM (q_ (Al (w_ (a_ (h:=e_ (Al (?_)))))))
  refine Bd (fun m s=>∃i c2:Nat,i≤x.entries.length∧m=x.entries.length - i∧c2=c+CM a.2 (x.entries.take i)∧c2≤c+i∧s=⟨look [(3, .bp 1 0),(5, .v (.int .i64 (c2:Int))),(6, .sl 8 (d.nodes.map Aa) none),(7, .v (.int .i64 (j:Int))),(8, .v (.int .i64 (i:Int)))],⟨[Ah f,AA a],[]⟩⟩) (x.entries.length) ((wk 2 0)) (⟨0,c,by omega,rfl,rfl,by omega,rfl⟩) ?_
  rintro m s ⟨i,c2,hi,rfl,hc2n,hc2b,rfl⟩
  refine q_ (w_ (m_ (h:=m_ (h:=m_ (h:=i_ (h:=f_ (h:=l_ (h:=n_ (h:=BH (h:=e_ (?_)))))))))))
  refine A7 rfl (fun hb3=>?_) (fun hb3=>?_)
  ·have hc3:=bp hb3
   obtain⟨hlt3,y,hy,hrow3, -⟩:=CX C9 hc3
   refine AM (q_ (Al (q_ (DV 12 (h:=AN 0 (h:=AN 1 (h:=DN 2 (h:=AJ 3 (h:=AF 4 (h:=AN 5 (h:=DN 6 (h:=AJ 7 (h:=AF 8 (h:=AJ 9 (h:=AF 10 (h:=GS 11 (h:=z_ (h:=t_ (?_)))))))))))))))))))
   refine A7 rfl (fun hb4=>?_) (fun hb4=>?_)
   ·have hc4:=bp hb4
    refine AP (m_ (h:=B2 (h:=a_ (h:=AO (Ay (t_ (AP (m_ (h:=B2 (h:=a_ (h:=AO (?_))))))))))))
    refine AE ?_
    (refine⟨_,_,?_,⟨i+1,c2+1,by omega,rfl,?_,by omega,rfl⟩,(wk 2 0)⟩<;>first|omega|(rw[OD hy];simp[hc4];omega))
   have hc4:=bp hb4
   refine B4 (Ay (t_ (AP (m_ (h:=B2 (h:=a_ (h:=AO (?_))))))))
   refine AE ?_
   first|(refine⟨_,_,?_,⟨i+1,c2+1,by omega,rfl,?_,by omega,rfl⟩,(wk 2 0)⟩<;>first|omega|(rw[OD hy];simp[hc4];omega))|(refine⟨_,_,?_,⟨i+1,c2,by omega,rfl,?_,by omega,rfl⟩,(wk 2 0)⟩<;>first|omega|(rw[OD hy];simp[hc4];omega))
  have hc3:=bp hb3
  have e3:=Cl C9 hi hc3
  subst e3
  refine BK (Aj (Aj (BL (Ay (t_ (AP (m_ (h:=B2 (h:=a_ (h:=AO (?_)))))))))))
  refine AE ?_
  refine⟨_,_,?_,⟨j+1,c2,by omega,rfl,?_,?_,rfl⟩,(wk 2 0)⟩
  ·omega
  ·rw[hc2n,Vf hx,List.take_length];omega
  have:=Ve a.2 (x.entries.take x.entries.length);simp at this;omega
 have hc2:=bp hb2
 have e2:=Cl Aa hj hc2
 subst e2
 refine BK (Aj (Aj (BL (t_ (w_ (m_ (h:=a_ (h:=e_ (A6 (?_))))))))))
 refine AD ?_
 exact vi (by rw[Vj g1 g2 g6,hcn,List.take_length])
end
end Go.Proofs.YtbglbmnhgbgelaaGreatDoor
