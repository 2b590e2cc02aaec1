/-
  Part 4 of the proof of WatchNamesP: what the statement's proof uses of the texts in wip/tpl.
-/
import Derived.WalkKit
import Derived.Laws.StructEq
import Derived.Test.YtobclmbkdhbnpaaGreatDoorQb3
open Go.Proofs.Tryz (prog)
set_option maxRecDepth 10000
set_option maxHeartbeats 4000000
set_option linter.unusedVariables false
set_option linter.unusedSimpArgs false
namespace Go.Proofs.YtobclmbkdhbnpaaGreatDoor
open Go.RowKit
section
variable {P:Program}{N:Dim}{Q:Exit→AS→Prop}{s:AS}
def AC(P:Program)(N:Dim)(y:Code)(Q:Exit→AS→Prop)(s:AS):Prop:=Bn P N y Q s
theorem q_{x y:Code}(h:Bn P N x (FN (AC P N y Q) Q) s):Bn P N (.seq x y) Q s:=by
 intro E a w hr;refine wp_seq (wp_mono (h E a w hr) ?_);rintro e a' w' ⟨s',hq,hr'⟩
 cases e with
 |normal=>exact hq E a' w' hr'
 |exit id=>exact⟨s',hq,hr'⟩
 |goto l=>exact⟨s',hq,hr'⟩
 |ret=>exact⟨s',hq,hr'⟩
 |panic c=>exact⟨s',hq,hr'⟩
 |outgrown=>exact⟨s',hq,hr'⟩
theorem w_{id:Nat}{l:List Oper}{y:Code}(h:AL P N l.toArray (FN (AC P N y Q) Q) l s):Bn P N (.seq (.region id l.toArray false) y) Q s:=q_ (AX h)
theorem t_{y:Code}(h:Bn P N y Q s):FN (AC P N y Q) Q .normal s:=h
theorem e_{ops:Array Oper}{y:Code}(h:Bn P N y Q s):AL P N ops (FN (AC P N y Q) Q) [] s:=AT h
theorem AO{y:Code}(h:Bn P N y Q s):Bn P N .skip (FN (AC P N y Q) Q) s:=BH h
theorem CD{c:Operand}{x y:Code}{t:Bool}(hc:Bx s.sl c=some (.v (.bool t)):=by rfl)(ht:t=true:=by first|rfl|assumption|simp[*])(h:Bn P N x Q s):Bn P N (.cond c x y) Q s:=Uu hc ht h
theorem F6{c:Operand}{x y:Code}{t:Bool}(hc:Bx s.sl c=some (.v (.bool t)):=by rfl)(ht:t=false:=by first|rfl|assumption|simp[*])(h:Bn P N y Q s):Bn P N (.cond c x y) Q s:=Uv hc ht h
end
section
variable {P:Program}{N:Dim}{Q:Exit→AS→Prop}{ops:Array Oper}{rest:List Oper}{l:List (Nat×AV)}{hh:AH}{op:Op}{ty:TypeId}{pos:String}{af:Array Edge}
theorem A3{d j:Nat}{want t:Bool}(hd:Nat.blt d N.n=true:=by rfl)(hy:yv ops (look l) j=some (some t):=by rfl)(ht:(t==want)=false:=by first|rfl|exact QE ‹_›|exact QF ‹_›|simp[*])(h:AL P N ops Q rest ⟨look ((d, .v undef)::l),hh⟩):AL P N ops Q (⟨some d,op,ty,pos,af,some (j,want)⟩::rest) ⟨look l,hh⟩:=Uw hd hy ht h
theorem Jb{d j:Nat}{want:Bool}(hd:Nat.blt d N.n=true:=by rfl)(hy:yv ops (look l) j=some none:=by rfl)(h:AL P N ops Q rest ⟨look ((d, .v undef)::l),hh⟩):AL P N ops Q (⟨some d,op,ty,pos,af,some (j,want)⟩::rest) ⟨look l,hh⟩:=Ux hd hy h
end
def KB:List (Nat×List AV)→AH→Prop
 |[],_=>True
 |(i,r)::l,h=>h.bx[i]?=some r∧KB l h
def Np:List (Nat×List AV)→Nat→Option (List AV)
 |[],_=>none
 |(i,r)::l,j=>match Nat.beq i j with
   |true=>some r
   |false=>Np l j
theorem kb:∀{l:List (Nat×List AV)} {h:AH} {i:Nat} {row:List AV},KB l h→Np l i=some row→h.bx[i]?=some row
 |[],_,_,_,_,e=>by cases e
 |(j,r)::l,h,i,row,k,e=>by
   unfold Np at e;split at e
   ·rename_i hb;have:=Nat.eq_of_beq_eq_true hb;subst this;injection e with e;subst e;exact k.1
   exact kb k.2 e
theorem Ke(h:AH):KB [] h:=trivial
theorem Kf{l:List (Nat×List AV)}{h:AH}{i:Nat}{r:List AV}(h1:h.bx[i]?=some r)(h2:KB l h):KB ((i,r)::l) h:=⟨h1,h2⟩
def Do(_i:Nat)(B A:Prop):Prop:=B→A
section
variable {P:Program}{N:Dim}{l:List Oper}{Q:Exit→AS→Prop}{S:AH→Prop}{tl fuel:Nat}{listed:Array Bool}{m:List (Nat×AV)}{hh:AH}{op:Op}{ty:TypeId}{pos:String}{af:Array Edge}{gd:Option (Nat×Bool)}
theorem Ca{i d:Nat}{x:AV}(hi:l[i]?=some ⟨some d,op,ty,pos,af,gd⟩)(hst:AStep P ⟨some d,op,ty,pos,af,gd⟩ (Bx (look m)) hh (fun x' h'=>x'=x∧h'=hh))(hd:Nat.blt d N.n=true:=by rfl)(htl:(Fp l.toArray tl listed&& !Nat.ble tl i&&Region.free .any l.toArray listed i&&(Region.ready .any l.toArray listed).contains i)=true:=by kernel_rfl)
    (hw:C8 l.toArray (look m) ⟨some d,op,ty,pos,af,gd⟩=some true:=by first|rfl|exact AE rfl rfl (Az ‹_›)|exact AE rfl rfl (B0 ‹_›)|exact AE rfl rfl (by simp[*])):
    Do i (AAny P N l.toArray Q (fun h'=>h'=hh) tl fuel (listed.setIfInBounds i true) ⟨look ((d,x)::m),hh⟩) (AAny P N l.toArray Q (fun h'=>h'=hh) tl (fuel+1) listed ⟨look m,hh⟩):=fun H=>Pq hi hd htl hw hst H
theorem Cb{K:List (Nat×List AV)}{i d:Nat}{x:AV}(hi:l[i]?=some ⟨some d,op,ty,pos,af,gd⟩)(hst:∀h,KB K h→AStep P ⟨some d,op,ty,pos,af,gd⟩ (Bx (look m)) h (fun x' h'=>x'=x∧h'=h))(hd:Nat.blt d N.n=true:=by rfl)(htl:(Fp l.toArray tl listed&& !Nat.ble tl i&&Region.free .any l.toArray listed i&&(Region.ready .any l.toArray listed).contains i)=true:=by kernel_rfl)
    (hw:C8 l.toArray (look m) ⟨some d,op,ty,pos,af,gd⟩=some true:=by first|rfl|exact AE rfl rfl (Az ‹_›)|exact AE rfl rfl (B0 ‹_›)|exact AE rfl rfl (by simp[*])) (hS:KB K hh:=by repeat (first|exact Ke _|refine Kf rfl ?_)):
    Do i (AAny P N l.toArray Q (KB K) tl fuel (listed.setIfInBounds i true) ⟨look ((d,x)::m),hh⟩) (AAny P N l.toArray Q (KB K) tl (fuel+1) listed ⟨look m,hh⟩):=fun H=>B7 hi hd htl hw hst hS H
theorem B5{K:List (Nat×List AV)}(i:Nat){d:Nat}{x:AV}(hi:l[i]?=some ⟨some d,op,ty,pos,af,gd⟩)(hst:∀h,KB K h→AStep P ⟨some d,op,ty,pos,af,gd⟩ (Bx (look m)) h (fun x' h'=>x'=x∧h'=h))(H:AAny P N l.toArray Q (KB K) tl fuel (listed.setIfInBounds i true) ⟨look ((d,x)::m),hh⟩)(hd:Nat.blt d N.n=true:=by rfl)(htl:(Fp l.toArray tl listed&& !Nat.ble tl i&&Region.free .any l.toArray listed i&&(Region.ready .any l.toArray listed).contains i)=true:=by kernel_rfl)
    (hw:C8 l.toArray (look m) ⟨some d,op,ty,pos,af,gd⟩=some true:=by first|rfl|exact AE rfl rfl (Az ‹_›)|exact AE rfl rfl (B0 ‹_›)|exact AE rfl rfl (by simp[*])) (hS:KB K hh:=by repeat (first|exact Ke _|refine Kf rfl ?_)):AAny P N l.toArray Q (KB K) tl (fuel+1) listed ⟨look m,hh⟩:=B7 hi hd htl hw hst hS H
theorem Be(i:Nat){d:Nat}(hi:l[i]?=some ⟨some d,op,ty,pos,af,gd⟩:=by rfl)(hd:Nat.blt d N.n=true:=by rfl)(htl:(Fp l.toArray tl listed&& !Nat.ble tl i&&Region.free .any l.toArray listed i&&(Region.ready .any l.toArray listed).contains i)=true:=by kernel_rfl)
    (hw:C8 l.toArray (look m) ⟨some d,op,ty,pos,af,gd⟩=some false:=by first|rfl|exact NC rfl rfl (QE ‹_›)|exact NC rfl rfl (QF ‹_›)|exact UX rfl rfl|exact NC rfl rfl (by simp[*]))
    (hS:S hh:=by first|rfl|(repeat (first|exact Ke _|refine Kf rfl ?_))) (h:AAny P N l.toArray Q S tl fuel (listed.setIfInBounds i true) ⟨look ((d, .v undef)::m),hh⟩):AAny P N l.toArray Q S tl (fuel+1) listed ⟨look m,hh⟩:=US hi hd htl hw hS h
theorem c_(i:Nat){d:Nat}(hi:l[i]?=some ⟨some d,op,ty,pos,af,gd⟩)(H:AStep P ⟨some d,op,ty,pos,af,gd⟩ (Bx (look m)) hh (fun x h'=>(Nat.ble tl i=true∨S h')∧AAny P N l.toArray Q S tl fuel (listed.setIfInBounds i true) ⟨look ((d,x)::m),h'⟩))(hd:Nat.blt d N.n=true:=by rfl)(hr:Region.ready .any l.toArray listed=[i]:=by kernel_rfl)
    (hw:C8 l.toArray (look m) ⟨some d,op,ty,pos,af,gd⟩=some true:=by first|rfl|exact AE rfl rfl (Az ‹_›)|exact AE rfl rfl (B0 ‹_›)|exact AE rfl rfl (by simp[*])):AAny P N l.toArray Q S tl (fuel+1) listed ⟨look m,hh⟩:=UT hi hd hr hw H
theorem BA(i:Nat)(hi:l[i]?=some ⟨none,op,ty,pos,af,gd⟩)(H:AStep P ⟨none,op,ty,pos,af,gd⟩ (Bx (look m)) hh (fun _ h'=>(Nat.ble tl i=true∨S h')∧AAny P N l.toArray Q S tl fuel (listed.setIfInBounds i true) ⟨look m,h'⟩))(hr:Region.ready .any l.toArray listed=[i]:=by kernel_rfl)
    (hw:C8 l.toArray (look m) ⟨none,op,ty,pos,af,gd⟩=some true:=by first|rfl|exact AE rfl rfl (Az ‹_›)|exact AE rfl rfl (B0 ‹_›)|exact AE rfl rfl (by simp[*])):AAny P N l.toArray Q S tl (fuel+1) listed ⟨look m,hh⟩:=UU hi hr hw H
theorem Fa(i j:Nat){di dj:Nat}{op':Op}{ty':TypeId}{pos':String}{af':Array Edge}{gd':Option (Nat×Bool)}(hi:l[i]?=some ⟨some di,op,ty,pos,af,gd⟩)(hj:l[j]?=some ⟨some dj,op',ty',pos',af',gd'⟩)
    (H1:AStep P ⟨some di,op,ty,pos,af,gd⟩ (Bx (look m)) hh (fun x h'=>(Nat.ble tl i=true∨S h')∧AAny P N l.toArray Q S tl fuel (listed.setIfInBounds i true) ⟨look ((di,x)::m),h'⟩))
    (H2:AStep P ⟨some dj,op',ty',pos',af',gd'⟩ (Bx (look m)) hh (fun x h'=>(Nat.ble tl j=true∨S h')∧AAny P N l.toArray Q S tl fuel (listed.setIfInBounds j true) ⟨look ((dj,x)::m),h'⟩))
    (hdi:Nat.blt di N.n=true:=by rfl) (hdj:Nat.blt dj N.n=true:=by rfl) (hr:Region.ready .any l.toArray listed=[i,j]:=by kernel_rfl)
    (hwi:C8 l.toArray (look m) ⟨some di,op,ty,pos,af,gd⟩=some true:=by first|rfl|exact AE rfl rfl (Az ‹_›)|exact AE rfl rfl (B0 ‹_›)|exact AE rfl rfl (by simp[*]))
    (hwj:C8 l.toArray (look m) ⟨some dj,op',ty',pos',af',gd'⟩=some true:=by first|rfl|exact AE rfl rfl (Az ‹_›)|exact AE rfl rfl (B0 ‹_›)|exact AE rfl rfl (by simp[*])):AAny P N l.toArray Q S tl (fuel+1) listed ⟨look m,hh⟩:=VA hr hi hdi hwi hj hdj hwj H1 H2
theorem o_{i:Nat}{A:Prop}{h':AH}(hS:Nat.ble tl i=true∨S h':=by first|exact .inl rfl|exact .inr rfl|exact .inr (by repeat (first|exact Ke _|refine Kf rfl ?_)))(h:A):(Nat.ble tl i=true∨S h')∧A:=⟨hS,h⟩
theorem z_(hr:Region.ready .any l.toArray listed=[]:=by kernel_rfl)(h:Q .normal ⟨look m,hh⟩):AAny P N l.toArray Q S tl fuel listed ⟨look m,hh⟩:=UW hr h fuel
theorem Dp(tl:Nat){id:Nat}(hm:P.follows .mixedOrders=true:=by kernel_rfl)(h:AAny P N l.toArray Q (fun h'=>h'=hh) tl l.length (Array.replicate l.length false) ⟨look m,hh⟩):Bn P N (.region id l.toArray true) Q ⟨look m,hh⟩:=UV tl hm h
theorem Bo(K:List (Nat×List AV))(tl:Nat){id:Nat}(hm:P.follows .mixedOrders=true:=by kernel_rfl)(h:AAny P N l.toArray Q (KB K) tl l.length (Array.replicate l.length false) ⟨look m,hh⟩):Bn P N (.region id l.toArray true) Q ⟨look m,hh⟩:=JU _ tl hm h
end
section
variable {P:Program}{rs:List ResultVar}{n:Nat}{R:AV→List (List AV)→List Cj→Prop}{s:AS}{xs:List AV}{r:AV}
theorem BS(g:Option Nat){tk':List Cj}(h1:ResA P s rs xs:=by repeat (first|exact ResA.nil|(apply ResA.tmp;(focus exact rfl))|(apply ResA.cellN;(focus exact inferInstance);(focus exact rfl);(focus exact rfl);(focus exact rfl))|(apply ResA.cell1;(focus exact inferInstance);(focus exact rfl);(focus exact rfl);(focus exact rfl))))(h2:H0 s.h.tk g=some tk':=by rfl)(h3:Af n 1 (Cr g (Dy xs))=true:=by rfl)(h4:Ai n 0 (s.h.bx.take n)=true:=by rfl)(h5:LeA (Cr g (Dy xs)) r)(h6:R r (s.h.bx.take n) tk'):H3 P rs n R .ret s:=NX g h1 h2 h3 h4 h5 h6
theorem M8(g:Option Nat){tk':List Cj}(h1:ResA P s rs xs:=by repeat (first|exact ResA.nil|(apply ResA.tmp;(focus exact rfl))|(apply ResA.cellN;(focus exact inferInstance);(focus exact rfl);(focus exact rfl);(focus exact rfl))|(apply ResA.cell1;(focus exact inferInstance);(focus exact rfl);(focus exact rfl);(focus exact rfl))))(h2:H0 s.h.tk g=some tk':=by rfl)(h3:Af n 1 (Cr g (Dy xs))=true:=by rfl)(h4:Ai n 0 (s.h.bx.take n)=true:=by rfl)(h5:LeA (Cr g (Dy xs)) r)(h6:R r (s.h.bx.take n) tk'):H3 P rs n R .normal s:=Un g h1 h2 h3 h4 h5 h6
end
theorem m_{A B:Prop}(k:B→A:=by intro b;first|exact A8 rfl (EP rfl b)|exact Ax (EP rfl b))(h:B):A:=k h
theorem AQ(i:Nat){A B:Prop}(k:Do i B A:=by first|exact Ca rfl (EP rfl ⟨rfl,rfl⟩)|exact Cb rfl (fun _ _=>EP rfl ⟨rfl,rfl⟩))(h:B):A:=k h
theorem a_{A B:Prop}(k:B→A:=by intro b;first|exact A8 rfl (Fr rfl b)|exact Ax (Fr rfl b))(h:B):A:=k h
theorem BO(i:Nat){A B:Prop}(k:Do i B A:=by first|exact Ca rfl (Fr rfl ⟨rfl,rfl⟩)|exact Cb rfl (fun _ _=>Fr rfl ⟨rfl,rfl⟩))(h:B):A:=k h
theorem f_{A B:Prop}(k:B→A:=by intro b;first|exact A8 rfl (EF rfl b)|exact A8 rfl (Fu rfl b)|exact Ax (EF rfl b)|exact Ax (Fu rfl b))(h:B):A:=k h
theorem AJ(i:Nat){A B:Prop}(k:Do i B A:=by first|exact Ca rfl (EF rfl ⟨rfl,rfl⟩)|exact Ca rfl (Fu rfl ⟨rfl,rfl⟩)|exact Cb rfl (fun _ _=>EF rfl ⟨rfl,rfl⟩)|exact Cb rfl (fun _ _=>Fu rfl ⟨rfl,rfl⟩))(h:B):A:=k h
theorem l_{A B:Prop}(k:B→A:=by intro b;first|exact A8 rfl (Bd rfl rfl rfl b)|exact A8 rfl (Eg rfl rfl rfl b)|exact A8 rfl (Fv rfl rfl b)|exact A8 rfl (Gv rfl rfl b)|exact A8 rfl (EZ rfl rfl rfl b)|exact A8 rfl (GR rfl rfl b)|exact Ax (Bd rfl rfl rfl b)|exact Ax (Eg rfl rfl rfl b)|exact Ax (Fv rfl rfl b)|exact Ax (Gv rfl rfl b)|exact Ax (EZ rfl rfl rfl b)|exact Ax (GR rfl rfl b))(h:B):A:=k h
theorem AF(i:Nat){A B:Prop}(k:Do i B A:=by first|exact Ca rfl (Bd rfl rfl rfl ⟨rfl,rfl⟩)|exact Ca rfl (Eg rfl rfl rfl ⟨rfl,rfl⟩)|exact Ca rfl (Fv rfl rfl ⟨rfl,rfl⟩)|exact Ca rfl (Gv rfl rfl ⟨rfl,rfl⟩)|exact Ca rfl (EZ rfl rfl rfl ⟨rfl,rfl⟩)|exact Ca rfl (GR rfl rfl ⟨rfl,rfl⟩)|exact Cb rfl (fun _ hS=>Bd rfl (kb hS rfl) rfl ⟨rfl,rfl⟩)|exact Cb rfl (fun _ hS=>Eg rfl (kb hS rfl) rfl ⟨rfl,rfl⟩)|exact Cb rfl (fun _ _=>Fv rfl rfl ⟨rfl,rfl⟩)|exact Cb rfl (fun _ _=>Gv rfl rfl ⟨rfl,rfl⟩)|exact Cb rfl (fun _ hS=>EZ rfl (kb hS rfl) rfl ⟨rfl,rfl⟩)|exact Cb rfl (fun _ _=>GR rfl rfl ⟨rfl,rfl⟩))(h:B):A:=k h
theorem s_{A B:Prop}(k:B→A:=by intro b;exact KX (B1 rfl rfl rfl rfl rfl rfl (by repeat constructor) (by repeat constructor) b))(h:B):A:=k h
theorem b_{A B:Prop}(k:B→A:=by intro b;first|exact A8 rfl (Nd rfl rfl (by repeat constructor) b)|exact A8 rfl (Nc rfl rfl (by repeat constructor) b)|exact Ax (Nd rfl rfl (by repeat constructor) b)|exact Ax (Nc rfl rfl (by repeat constructor) b))(h:B):A:=k h
theorem Ak{A B:Prop}(k:B→A:=by intro b;first|exact A8 rfl (Cn (by repeat constructor) b)|exact Ax (Cn (by repeat constructor) b))(h:B):A:=k h
theorem n_{A B:Prop}(k:B→A:=by intro b;first|exact A8 rfl (Lt rfl b)|exact A8 rfl (Ls (by kernel_rfl) rfl b)|exact A8 rfl (Lu rfl b)|exact Ax (Lt rfl b)|exact Ax (Ls (by kernel_rfl) rfl b)|exact Ax (Lu rfl b))(h:B):A:=k h
theorem Kg(i:Nat){A B:Prop}(k:Do i B A:=by first|exact Ca rfl (Lt rfl ⟨rfl,rfl⟩)|exact Ca rfl (Ls (by kernel_rfl) rfl ⟨rfl,rfl⟩)|exact Ca rfl (Lu rfl ⟨rfl,rfl⟩)|exact Cb rfl (fun _ _=>Lt rfl ⟨rfl,rfl⟩)|exact Cb rfl (fun _ _=>Ls (by kernel_rfl) rfl ⟨rfl,rfl⟩)|exact Cb rfl (fun _ _=>Lu rfl ⟨rfl,rfl⟩))(h:B):A:=k h
theorem GT{A B:Prop}(k:B→A:=by intro b;first|exact A8 rfl (Ei rfl rfl rfl (by simp<;>omega) (by repeat constructor) b)|exact A8 rfl (Ej rfl rfl (by simp<;>omega) (by repeat constructor) b)|exact Ax (Ei rfl rfl rfl (by simp<;>omega) (by repeat constructor) b)|exact Ax (Ej rfl rfl (by simp<;>omega) (by repeat constructor) b))(h:B):A:=k h
theorem x_{A B:Prop}(k:B→A:=by intro b;first|exact A8 rfl (Lg rfl rfl b)|exact Ax (Lg rfl rfl b))(h:B):A:=k h
theorem BU(i:Nat){A B:Prop}(k:Do i B A:=by first|exact Ca rfl (Lg rfl rfl ⟨rfl,rfl⟩)|exact Cb rfl (fun _ _=>Lg rfl rfl ⟨rfl,rfl⟩))(h:B):A:=k h
theorem k_{A B:Prop}(k:B→A:=by intro b;first|exact A8 rfl (Fs rfl b)|exact A8 rfl (Ft rfl b)|exact Ax (Fs rfl b)|exact Ax (Ft rfl b))(h:B):A:=k h
theorem BL(i:Nat){A B:Prop}(k:Do i B A:=by first|exact Ca rfl (Fs rfl ⟨rfl,rfl⟩)|exact Ca rfl (Ft rfl ⟨rfl,rfl⟩)|exact Cb rfl (fun _ _=>Fs rfl ⟨rfl,rfl⟩)|exact Cb rfl (fun _ _=>Ft rfl ⟨rfl,rfl⟩))(h:B):A:=k h
theorem Aa{A B:Prop}(k:B→A:=by intro b;first|exact A8 rfl (KQ (by repeat (first|exact FillA.nil _|(apply FillA.cons;(focus exact rfl);(focus exact rfl);(focus exact rfl);(focus exact rfl);(focus exact rfl);(focus (repeat constructor))))) b)|exact Ax (KQ (by repeat (first|exact FillA.nil _|(apply FillA.cons;(focus exact rfl);(focus exact rfl);(focus exact rfl);(focus exact rfl);(focus exact rfl);(focus (repeat constructor))))) b))(h:B):A:=k h
theorem Fy(i:Nat){A B:Prop}(k:Do i B A:=by first|exact Ca rfl (KQ (by repeat (first|exact FillA.nil _|(apply FillA.cons;(focus exact rfl);(focus exact rfl);(focus exact rfl);(focus exact rfl);(focus exact rfl);(focus (repeat constructor))))) ⟨rfl,rfl⟩)|exact Cb rfl (fun _ _=>KQ (by repeat (first|exact FillA.nil _|(apply FillA.cons;(focus exact rfl);(focus exact rfl);(focus exact rfl);(focus exact rfl);(focus exact rfl);(focus (repeat constructor))))) ⟨rfl,rfl⟩))(h:B):A:=k h
theorem CR{A B:Prop}(k:B→A:=by intro b;first|exact A8 rfl (KR (by repeat (first|exact DenseA.nil _|(apply DenseA.cons;(focus exact rfl);(focus exact rfl);(focus exact rfl);(focus exact rfl))|(apply DenseA.consE;(focus exact rfl);(focus exact rfl);(focus exact rfl)))) rfl rfl rfl rfl b)|exact Ax (KR (by repeat (first|exact DenseA.nil _|(apply DenseA.cons;(focus exact rfl);(focus exact rfl);(focus exact rfl);(focus exact rfl))|(apply DenseA.consE;(focus exact rfl);(focus exact rfl);(focus exact rfl)))) rfl rfl rfl rfl b))(h:B):A:=k h
theorem Jc(i:Nat){A B:Prop}(k:Do i B A:=by first|exact Ca rfl (KR (by repeat (first|exact DenseA.nil _|(apply DenseA.cons;(focus exact rfl);(focus exact rfl);(focus exact rfl);(focus exact rfl))|(apply DenseA.consE;(focus exact rfl);(focus exact rfl);(focus exact rfl)))) rfl rfl rfl rfl ⟨rfl,rfl⟩)|exact Cb rfl (fun _ _=>KR (by repeat (first|exact DenseA.nil _|(apply DenseA.cons;(focus exact rfl);(focus exact rfl);(focus exact rfl);(focus exact rfl))|(apply DenseA.consE;(focus exact rfl);(focus exact rfl);(focus exact rfl)))) rfl rfl rfl rfl ⟨rfl,rfl⟩))(h:B):A:=k h
theorem AY{A B:Prop}(k:B→A:=by intro b;first|exact A8 rfl (M1 b)|exact Ax (M1 b))(h:B):A:=k h
theorem H4(i:Nat){A B:Prop}(k:Do i B A:=by first|exact Ca rfl (M1 ⟨rfl,rfl⟩)|exact Cb rfl (fun _ _=>M1 ⟨rfl,rfl⟩))(h:B):A:=k h
theorem Aj{A B:Prop}(k:B→A:=by intro b;first|exact A8 rfl (M2 b)|exact Ax (M2 b))(h:B):A:=k h
theorem FP(i:Nat){A B:Prop}(k:Do i B A:=by first|exact Ca rfl (M2 ⟨rfl,rfl⟩)|exact Cb rfl (fun _ _=>M2 ⟨rfl,rfl⟩))(h:B):A:=k h
theorem i_{A B:Prop}(k:B→A:=by intro b;first|exact A8 rfl (DZ rfl rfl rfl (by first|assumption|rfl) b)|exact Ax (DZ rfl rfl rfl (by first|assumption|rfl) b))(h:B):A:=k h
theorem DD(i:Nat){A B:Prop}(k:Do i B A:=by first|exact Ca rfl (DZ rfl rfl rfl (by first|assumption|rfl) ⟨rfl,rfl⟩)|exact Cb rfl (fun _ _=>DZ rfl rfl rfl (by first|assumption|rfl) ⟨rfl,rfl⟩))(h:B):A:=k h
theorem VB{A B:Prop}(k:B→A:=by intro b;first|exact A8 rfl (QG rfl rfl (by omega) (by repeat constructor) b)|exact Ax (QG rfl rfl (by omega) (by repeat constructor) b))(h:B):A:=k h
theorem Bt{A B:Prop}(k:B→A:=by intro b;first|exact A8 rfl (Lr rfl b)|exact Ax (Lr rfl b))(h:B):A:=k h
theorem M9(i:Nat){A B:Prop}(k:Do i B A:=by first|exact Ca rfl (Lr rfl ⟨rfl,rfl⟩)|exact Cb rfl (fun _ _=>Lr rfl ⟨rfl,rfl⟩))(h:B):A:=k h
theorem BB{A B:Prop}(k:B→A:=by intro b;first|exact A8 rfl (KP rfl rfl (by omega) b)|exact A8 rfl (Hp rfl rfl (by omega) b)|exact A8 rfl (NP rfl rfl b)|exact Ax (KP rfl rfl (by omega) b)|exact Ax (Hp rfl rfl (by omega) b)|exact Ax (NP rfl rfl b))(h:B):A:=k h
theorem VC{A B:Prop}(k:B→A:=by intro b;first|exact A8 rfl (Ll rfl rfl (by omega) b)|exact A8 rfl (KO rfl rfl b)|exact Ax (Ll rfl rfl (by omega) b)|exact Ax (KO rfl rfl b))(h:B):A:=k h
theorem Qc(i:Nat){A B:Prop}(k:Do i B A:=by first|exact Ca rfl (Ll rfl rfl (by omega) ⟨rfl,rfl⟩)|exact Ca rfl (KO rfl rfl ⟨rfl,rfl⟩)|exact Cb rfl (fun _ _=>Ll rfl rfl (by omega) ⟨rfl,rfl⟩)|exact Cb rfl (fun _ _=>KO rfl rfl ⟨rfl,rfl⟩))(h:B):A:=k h
theorem Ah{A B:Prop}(k:B→A:=by intro b;first|exact A8 rfl (Lm rfl rfl b)|exact A8 rfl (Lp rfl rfl b)|exact A8 rfl (Lx (by kernel_rfl) rfl rfl b)|exact Ax (Lm rfl rfl b)|exact Ax (Lp rfl rfl b)|exact Ax (Lx (by kernel_rfl) rfl rfl b))(h:B):A:=k h
theorem GU(i:Nat){A B:Prop}(k:Do i B A:=by first|exact Ca rfl (Lm rfl rfl ⟨rfl,rfl⟩)|exact Ca rfl (Lp rfl rfl ⟨rfl,rfl⟩)|exact Ca rfl (Lx (by kernel_rfl) rfl rfl ⟨rfl,rfl⟩)|exact Cb rfl (fun _ _=>Lm rfl rfl ⟨rfl,rfl⟩)|exact Cb rfl (fun _ _=>Lp rfl rfl ⟨rfl,rfl⟩)|exact Cb rfl (fun _ _=>Lx (by kernel_rfl) rfl rfl ⟨rfl,rfl⟩))(h:B):A:=k h
theorem Bf{A B:Prop}(k:B→A:=by intro b;first|exact A8 rfl (Ln rfl rfl b)|exact A8 rfl (Lq rfl rfl b)|exact A8 rfl (Ly (by kernel_rfl) rfl rfl b)|exact Ax (Ln rfl rfl b)|exact Ax (Lq rfl rfl b)|exact Ax (Ly (by kernel_rfl) rfl rfl b))(h:B):A:=k h
theorem MA(i:Nat){A B:Prop}(k:Do i B A:=by first|exact Ca rfl (Ln rfl rfl ⟨rfl,rfl⟩)|exact Ca rfl (Lq rfl rfl ⟨rfl,rfl⟩)|exact Ca rfl (Ly (by kernel_rfl) rfl rfl ⟨rfl,rfl⟩)|exact Cb rfl (fun _ _=>Ln rfl rfl ⟨rfl,rfl⟩)|exact Cb rfl (fun _ _=>Lq rfl rfl ⟨rfl,rfl⟩)|exact Cb rfl (fun _ _=>Ly (by kernel_rfl) rfl rfl ⟨rfl,rfl⟩))(h:B):A:=k h
theorem BQ{A B:Prop}(k:B→A:=by intro b;first|exact A8 rfl (Px rfl rfl b)|exact A8 rfl (Q1 rfl rfl b)|exact Ax (Px rfl rfl b)|exact Ax (Q1 rfl rfl b))(h:B):A:=k h
theorem Kh{A B:Prop}(k:B→A:=by intro b;first|exact A8 rfl (Py rfl rfl b)|exact Ax (Py rfl rfl b))(h:B):A:=k h
theorem Co{A B:Prop}(k:B→A:=by intro b;first|exact A8 rfl (Lo rfl rfl b)|exact Ax (Lo rfl rfl b))(h:B):A:=k h
theorem Nq(i:Nat){A B:Prop}(k:Do i B A:=by first|exact Ca rfl (Lo rfl rfl ⟨rfl,rfl⟩)|exact Cb rfl (fun _ _=>Lo rfl rfl ⟨rfl,rfl⟩))(h:B):A:=k h
theorem Fz{A B:Prop}(k:B→A:=by intro b;first|exact A8 rfl (Pz rfl rfl b)|exact A8 rfl (Q2 rfl rfl b)|exact Ax (Pz rfl rfl b)|exact Ax (Q2 rfl rfl b))(h:B):A:=k h
theorem Dz{A B:Prop}(k:B→A:=by intro b;first|exact A8 rfl (QH rfl rfl b)|exact Ax (QH rfl rfl b))(h:B):A:=k h
theorem at_{A B:Prop}(k:B→A:=by intro b;first|exact A8 rfl (QR rfl rfl b)|exact Ax (QR rfl rfl b))(h:B):A:=k h
theorem Qd{A B:Prop}(k:B→A:=by intro b;first|exact A8 rfl (QJ rfl rfl (by omega) b)|exact Ax (QJ rfl rfl (by omega) b))(h:B):A:=k h
theorem BT{f:Nat→Option AV}{bx:List (List AV)}{tk:List (Nat×Nat×List (List AV))}{l:List (Nat×AV)}{N:Dim}(n m:Nat){bx':List (List AV)}{tk':List (Nat×Nat×List (List AV))}(hbp:Ai n m bx'=true)(hn:Nat.ble N.ni n=true:=by rfl)(hb:bx.take n=bx':=by rfl)(ht:tk.take m=tk':=by rfl)(hl:Sub n m f l:=by repeat (first|exact Sub.nil|refine Sub.cons _ _ _ rfl rfl ?_|refine Sub.any _ _ ?_|refine Sub.sl _ _ _ _ _ rfl ?_|refine Sub.slnil _ _ _ rfl ?_)):Weak N ⟨f,⟨bx,tk⟩⟩ ⟨look l,⟨bx',tk'⟩⟩:=B4 n m hn hb ht hbp hl
theorem D8{P:Program}{ev:Operand→Option AV}{h:AH}{R:AV→AH→Prop}{d:Option Tmp}{ty:TypeId}{pos:String}{af:Array Edge}{gd:Option (Nat×Bool)}{T:TypeId}{l:List (Nat×Operand)}{pl:List (Nat×Nat)}{row cs:List AV}[hp:Plc P T pl][hz:Zer P T row](hR:R (.agg cs) h)(hf:FillA pl ev row l cs:=by repeat (first|exact FillA.nil _|(apply FillA.cons;(focus exact rfl);(focus exact rfl);(focus exact rfl);(focus exact rfl);(focus exact rfl);(focus (repeat constructor))))):AStep P ⟨d, .build T l.toArray,ty,pos,af,gd⟩ ev h R:=KQ hf hR
theorem Em{P:Program}{ev:Operand→Option AV}{h:AH}{R:AV→AH→Prop}{o:Oper}{x y:AV}(hs:AStep P o ev h fun r h'=>r=x∧h'=h)(hR:R y h)(hl:LeA x y:=by repeat (first|exact AM _|exact LeA.nil _|exact LeL.refl _|refine LeA.agg ?_|refine LeA.tup ?_|exact LeL.nil|refine LeL.cons ?_ ?_|exact LeA.any _)):AStep P o ev h R:=F1 hs hl hR
instance :Typ prog 3 1 false:=⟨by kernel_rfl⟩
instance :Typ prog 4 1 false:=⟨by kernel_rfl⟩
instance :Typ prog 9 1 false:=⟨by kernel_rfl⟩
instance :Elm prog 22 3 1 8:=⟨by kernel_rfl,by decide⟩
instance :Typ prog 25 1 false:=⟨by kernel_rfl⟩
instance :Elm prog 25 83 2 32:=⟨by kernel_rfl,by decide⟩
instance :Typ prog 27 1 true:=⟨by kernel_rfl⟩
instance :Zer prog 27 [.v (.slice none 0 0)]:=⟨[.slice none 0 0],by kernel_rfl,rfl,rfl⟩
instance :Plc prog 27 [(0,1)]:=⟨by kernel_rfl⟩
instance :Fld prog 27 0 0 1:=⟨by kernel_rfl⟩
instance :Typ prog 28 1 false:=⟨by kernel_rfl⟩
instance :Elm prog 28 108 3 24:=⟨by kernel_rfl,by decide⟩
instance :Typ prog 30 2 true:=⟨by kernel_rfl⟩
instance :Zer prog 30 [.v (.slice none 0 0), .v (.slice none 0 0)]:=⟨[.slice none 0 0, .slice none 0 0],by kernel_rfl,rfl,rfl⟩
instance :Plc prog 30 [(0,1),(1,1)]:=⟨by kernel_rfl⟩
instance :Fld prog 30 0 0 1:=⟨by kernel_rfl⟩
instance :Fld prog 30 1 1 1:=⟨by kernel_rfl⟩
instance :Typ prog 33 2 true:=⟨by kernel_rfl⟩
instance :Zer prog 33 [.v (.int .i64 0), .v (.int .i64 0)]:=⟨[.int .i64 0, .int .i64 0],by kernel_rfl,rfl,rfl⟩
instance :Plc prog 33 [(0,1),(1,1)]:=⟨by kernel_rfl⟩
instance :Fld prog 33 0 0 1:=⟨by kernel_rfl⟩
instance :Fld prog 33 1 1 1:=⟨by kernel_rfl⟩
instance :Typ prog 35 6 true:=⟨by kernel_rfl⟩
instance :Zer prog 35 [.v (.int .i64 0), .v (.int .i64 0), .v (.int .i64 0), .v (.string ⟨#[]⟩), .v (.int .i64 0), .v (.int .i64 0)]:=⟨[.int .i64 0, .int .i64 0, .int .i64 0, .string ⟨#[]⟩, .int .i64 0, .int .i64 0],by kernel_rfl,rfl,rfl⟩
instance :Plc prog 35 [(0,1),(1,2),(3,1),(4,2)]:=⟨by kernel_rfl⟩
instance :Fld prog 35 0 0 1:=⟨by kernel_rfl⟩
instance :Fld prog 35 1 1 2:=⟨by kernel_rfl⟩
instance :Fld prog 35 2 3 1:=⟨by kernel_rfl⟩
instance :Fld prog 35 3 4 2:=⟨by kernel_rfl⟩
instance :Typ prog 40 1 false:=⟨by kernel_rfl⟩
instance :Typ prog 44 1 false:=⟨by kernel_rfl⟩
instance :Elm prog 44 67 7 64:=⟨by kernel_rfl,by decide⟩
instance :Typ prog 51 13 true:=⟨by kernel_rfl⟩
instance :Zer prog 51 [.v (.string ⟨#[]⟩), .v (.string ⟨#[]⟩), .v (.int .i64 0), .v (.int .i64 0), .v (.string ⟨#[]⟩), .v (.int .i64 0), .v (.int .i64 0), .v (.int .i64 0), .v (.int .i64 0), .v (.int .i64 0), .v (.int .i64 0), .v (.int .i64 0), .v (.int .i64 0)]:=⟨[.string ⟨#[]⟩, .string ⟨#[]⟩, .int .i64 0, .int .i64 0, .string ⟨#[]⟩, .int .i64 0, .int .i64 0, .int .i64 0, .int .i64 0, .int .i64 0, .int .i64 0, .int .i64 0, .int .i64 0],by kernel_rfl,rfl,rfl⟩
instance :Plc prog 51 [(0,1),(1,1),(2,2),(4,1),(5,2),(7,1),(8,1),(9,1),(10,1),(11,1),(12,1)]:=⟨by kernel_rfl⟩
instance :Fld prog 51 2 2 2:=⟨by kernel_rfl⟩
instance :Fld prog 51 3 4 1:=⟨by kernel_rfl⟩
instance :Fld prog 51 4 5 2:=⟨by kernel_rfl⟩
instance :Fld prog 51 5 7 1:=⟨by kernel_rfl⟩
instance :Fld prog 51 6 8 1:=⟨by kernel_rfl⟩
instance :Fld prog 51 7 9 1:=⟨by kernel_rfl⟩
instance :Fld prog 51 8 10 1:=⟨by kernel_rfl⟩
instance :Fld prog 51 9 11 1:=⟨by kernel_rfl⟩
instance :Typ prog 54 1 false:=⟨by kernel_rfl⟩
instance :Elm prog 54 128 14 144:=⟨by kernel_rfl,by decide⟩
instance :Typ prog 56 3 true:=⟨by kernel_rfl⟩
instance :Zer prog 56 [.v (.int .i64 0), .v (.int .i64 0), .v (.slice none 0 0)]:=⟨[.int .i64 0, .int .i64 0, .slice none 0 0],by kernel_rfl,rfl,rfl⟩
instance :Plc prog 56 [(0,1),(1,1),(2,1)]:=⟨by kernel_rfl⟩
instance :Fld prog 56 0 0 1:=⟨by kernel_rfl⟩
instance :Fld prog 56 1 1 1:=⟨by kernel_rfl⟩
instance :Fld prog 56 2 2 1:=⟨by kernel_rfl⟩
instance :Typ prog 58 5 true:=⟨by kernel_rfl⟩
instance :Zer prog 58 [.v (.slice none 0 0), .v (.slice none 0 0), .v (.int .i64 0), .v (.int .i64 0), .v (.slice none 0 0)]:=⟨[.slice none 0 0, .slice none 0 0, .int .i64 0, .int .i64 0, .slice none 0 0],by kernel_rfl,rfl,rfl⟩
instance :Plc prog 58 [(0,2),(2,3)]:=⟨by kernel_rfl⟩
instance :Fld prog 58 0 0 2:=⟨by kernel_rfl⟩
instance :Fld prog 58 1 2 3:=⟨by kernel_rfl⟩
instance :Typ prog 63 1 false:=⟨by kernel_rfl⟩
instance :Elm prog 63 88 2 24:=⟨by kernel_rfl,by decide⟩
instance :Typ prog 65 8 true:=⟨by kernel_rfl⟩
instance :Zer prog 65 [.v (.int .i64 0), .v (.int .i64 0), .v (.int .i64 0), .v (.int .i64 0), .v (.int .i64 0), .v (.int .i64 0), .v (.string ⟨#[]⟩), .v (.slice none 0 0)]:=⟨[.int .i64 0, .int .i64 0, .int .i64 0, .int .i64 0, .int .i64 0, .int .i64 0, .string ⟨#[]⟩, .slice none 0 0],by kernel_rfl,rfl,rfl⟩
instance :Plc prog 65 [(0,1),(1,1),(2,1),(3,1),(4,1),(5,1),(6,1),(7,1)]:=⟨by kernel_rfl⟩
instance :Fld prog 65 0 0 1:=⟨by kernel_rfl⟩
instance :Fld prog 65 1 1 1:=⟨by kernel_rfl⟩
instance :Fld prog 65 2 2 1:=⟨by kernel_rfl⟩
instance :Fld prog 65 3 3 1:=⟨by kernel_rfl⟩
instance :Fld prog 65 4 4 1:=⟨by kernel_rfl⟩
instance :Fld prog 65 5 5 1:=⟨by kernel_rfl⟩
instance :Fld prog 65 6 6 1:=⟨by kernel_rfl⟩
instance :Fld prog 65 7 7 1:=⟨by kernel_rfl⟩
instance :Typ prog 67 7 true:=⟨by kernel_rfl⟩
instance :Zer prog 67 [.v (.int .i64 0), .v (.int .i64 0), .v (.string ⟨#[]⟩), .v (.int .i64 0), .v (.int .i64 0), .v (.int .i64 0), .v (.int .i64 0)]:=⟨[.int .i64 0, .int .i64 0, .string ⟨#[]⟩, .int .i64 0, .int .i64 0, .int .i64 0, .int .i64 0],by kernel_rfl,rfl,rfl⟩
instance :Plc prog 67 [(0,2),(2,1),(3,2),(5,2)]:=⟨by kernel_rfl⟩
instance :Fld prog 67 0 0 2:=⟨by kernel_rfl⟩
instance :Fld prog 67 1 2 1:=⟨by kernel_rfl⟩
instance :Fld prog 67 2 3 2:=⟨by kernel_rfl⟩
instance :Fld prog 67 3 5 2:=⟨by kernel_rfl⟩
instance :Typ prog 68 1 false:=⟨by kernel_rfl⟩
instance :Elm prog 68 9 1 16:=⟨by kernel_rfl,by decide⟩
instance :Typ prog 81 1 false:=⟨by kernel_rfl⟩
instance :Elm prog 81 65 8 88:=⟨by kernel_rfl,by decide⟩
instance :Typ prog 83 2 true:=⟨by kernel_rfl⟩
instance :Zer prog 83 [.v (.int .i64 0), .v (.slice none 0 0)]:=⟨[.int .i64 0, .slice none 0 0],by kernel_rfl,rfl,rfl⟩
instance :Plc prog 83 [(0,1),(1,1)]:=⟨by kernel_rfl⟩
instance :Fld prog 83 0 0 1:=⟨by kernel_rfl⟩
instance :Fld prog 83 1 1 1:=⟨by kernel_rfl⟩
instance :Typ prog 88 2 true:=⟨by kernel_rfl⟩
instance :Zer prog 88 [.v (.string ⟨#[]⟩), .v (.int .i64 0)]:=⟨[.string ⟨#[]⟩, .int .i64 0],by kernel_rfl,rfl,rfl⟩
instance :Plc prog 88 [(0,1),(1,1)]:=⟨by kernel_rfl⟩
instance :Fld prog 88 0 0 1:=⟨by kernel_rfl⟩
instance :Fld prog 88 1 1 1:=⟨by kernel_rfl⟩
instance :Typ prog 89 1 false:=⟨by kernel_rfl⟩
instance :Elm prog 89 51 13 128:=⟨by kernel_rfl,by decide⟩
instance :Typ prog 91 5 true:=⟨by kernel_rfl⟩
instance :Zer prog 91 [.v (.int .i64 0), .v (.int .i64 0), .v (.int .i64 0), .v (.slice none 0 0), .v (.slice none 0 0)]:=⟨[.int .i64 0, .int .i64 0, .int .i64 0, .slice none 0 0, .slice none 0 0],by kernel_rfl,rfl,rfl⟩
instance :Plc prog 91 [(0,1),(1,1),(2,1),(3,1),(4,1)]:=⟨by kernel_rfl⟩
instance :Fld prog 91 0 0 1:=⟨by kernel_rfl⟩
instance :Fld prog 91 2 2 1:=⟨by kernel_rfl⟩
instance :Fld prog 91 3 3 1:=⟨by kernel_rfl⟩
instance :Fld prog 91 4 4 1:=⟨by kernel_rfl⟩
instance :Typ prog 94 4 true:=⟨by kernel_rfl⟩
instance :Zer prog 94 [.v (.int .i64 0), .v (.int .i64 0), .v (.int .i64 0), .v (.int .i64 0)]:=⟨[.int .i64 0, .int .i64 0, .int .i64 0, .int .i64 0],by kernel_rfl,rfl,rfl⟩
instance :Plc prog 94 [(0,1),(1,1),(2,1),(3,1)]:=⟨by kernel_rfl⟩
instance :Typ prog 96 7 true:=⟨by kernel_rfl⟩
instance :Zer prog 96 [.v (.int .i64 0), .v (.int .i64 0), .v (.int .i64 0), .v (.int .i64 0), .v (.int .i64 0), .v (.slice none 0 0), .v (.slice none 0 0)]:=⟨[.int .i64 0, .int .i64 0, .int .i64 0, .int .i64 0, .int .i64 0, .slice none 0 0, .slice none 0 0],by kernel_rfl,rfl,rfl⟩
instance :Plc prog 96 [(0,1),(1,4),(5,1),(6,1)]:=⟨by kernel_rfl⟩
instance :Fld prog 96 0 0 1:=⟨by kernel_rfl⟩
instance :Fld prog 96 1 1 4:=⟨by kernel_rfl⟩
instance :Fld prog 96 2 5 1:=⟨by kernel_rfl⟩
instance :Fld prog 96 3 6 1:=⟨by kernel_rfl⟩
instance :Elm prog 99 40 1 8:=⟨by kernel_rfl,by decide⟩
instance :Typ prog 108 3 true:=⟨by kernel_rfl⟩
instance :Zer prog 108 [.v (.int .i64 0), .v (.int .i64 0), .v (.int .i64 0)]:=⟨[.int .i64 0, .int .i64 0, .int .i64 0],by kernel_rfl,rfl,rfl⟩
instance :Fld prog 108 0 0 1:=⟨by kernel_rfl⟩
instance :Fld prog 108 1 1 2:=⟨by kernel_rfl⟩
instance :Zer prog 113 [.v (.int .i64 0), .v (.int .i64 0), .v (.int .i64 0), .v (.int .i64 0)]:=⟨[.int .i64 0, .int .i64 0, .int .i64 0, .int .i64 0],by kernel_rfl,rfl,rfl⟩
instance :Plc prog 113 [(0,2),(2,2)]:=⟨by kernel_rfl⟩
instance :Typ prog 121 8 true:=⟨by kernel_rfl⟩
instance :Zer prog 121 [.v (.int .i64 0), .v (.int .i64 0), .v (.string ⟨#[]⟩), .v (.int .i64 0), .v (.int .i64 0), .v (.bool false), .v (.bool false), .v (.string ⟨#[]⟩)]:=⟨[.int .i64 0, .int .i64 0, .string ⟨#[]⟩, .int .i64 0, .int .i64 0, .bool false, .bool false, .string ⟨#[]⟩],by kernel_rfl,rfl,rfl⟩
instance :Plc prog 121 [(0,2),(2,1),(3,2),(5,1),(6,1),(7,1)]:=⟨by kernel_rfl⟩
instance :Fld prog 121 0 0 2:=⟨by kernel_rfl⟩
instance :Fld prog 121 1 2 1:=⟨by kernel_rfl⟩
instance :Fld prog 121 2 3 2:=⟨by kernel_rfl⟩
instance :Fld prog 121 3 5 1:=⟨by kernel_rfl⟩
instance :Fld prog 121 4 6 1:=⟨by kernel_rfl⟩
instance :Fld prog 121 5 7 1:=⟨by kernel_rfl⟩
instance :Typ prog 126 1 false:=⟨by kernel_rfl⟩
instance :Elm prog 126 220 4 32:=⟨by kernel_rfl,by decide⟩
instance :Typ prog 128 14 true:=⟨by kernel_rfl⟩
instance :Zer prog 128 [.v (.int .i64 0), .v (.int .i64 0), .v (.int .i64 0), .v (.int .i64 0), .v (.int .i64 0), .v (.int .i64 0), .v (.int .i64 0), .v (.int .i64 0), .v (.int .i64 0), .v (.int .i64 0), .v (.string ⟨#[]⟩), .v (.string ⟨#[]⟩), .v (.slice none 0 0), .v (.bool false)]:=⟨[.int .i64 0, .int .i64 0, .int .i64 0, .int .i64 0, .int .i64 0, .int .i64 0, .int .i64 0, .int .i64 0, .int .i64 0, .int .i64 0, .string ⟨#[]⟩, .string ⟨#[]⟩, .slice none 0 0, .bool false],by kernel_rfl,rfl,rfl⟩
instance :Plc prog 128 [(0,1),(1,1),(2,1),(3,1),(4,1),(5,1),(6,1),(7,1),(8,2),(10,1),(11,1),(12,1),(13,1)]:=⟨by kernel_rfl⟩
instance :Fld prog 128 0 0 1:=⟨by kernel_rfl⟩
instance :Fld prog 128 3 3 1:=⟨by kernel_rfl⟩
instance :Fld prog 128 5 5 1:=⟨by kernel_rfl⟩
instance :Fld prog 128 8 8 2:=⟨by kernel_rfl⟩
instance :Fld prog 128 11 12 1:=⟨by kernel_rfl⟩
instance :Typ prog 134 1 false:=⟨by kernel_rfl⟩
instance :Elm prog 134 121 8 72:=⟨by kernel_rfl,by decide⟩
instance :Zer prog 136 [.v (.slice none 0 0), .v (.slice none 0 0), .v (.int .i64 0), .v (.int .i64 0), .v (.slice none 0 0), .v (.int .i64 0), .v (.int .i64 0), .v (.int .i64 0), .v (.int .i64 0), .v (.int .i64 0), .v (.int .i64 0), .v (.int .i64 0), .v (.int .i64 0), .v (.int .i64 0), .v (.int .i64 0), .v (.string ⟨#[]⟩), .v (.string ⟨#[]⟩), .v (.slice none 0 0), .v (.bool false), .v (.int .i64 0), .v (.int .i64 0), .v (.int .i64 0), .v (.int .i64 0), .v (.int .i64 0), .v (.slice none 0 0), .v (.slice none 0 0), .v (.slice none 0 0), .v (.int .i64 0), .v (.int .i64 0), .v (.int .i64 0), .v (.slice none 0 0), .v (.slice none 0 0)]:=⟨[.slice none 0 0, .slice none 0 0, .int .i64 0, .int .i64 0, .slice none 0 0, .int .i64 0, .int .i64 0, .int .i64 0, .int .i64 0, .int .i64 0, .int .i64 0, .int .i64 0, .int .i64 0, .int .i64 0, .int .i64 0, .string ⟨#[]⟩, .string ⟨#[]⟩, .slice none 0 0, .bool false, .int .i64 0, .int .i64 0, .int .i64 0, .int .i64 0, .int .i64 0, .slice none 0 0, .slice none 0 0, .slice none 0 0, .int .i64 0, .int .i64 0, .int .i64 0, .slice none 0 0, .slice none 0 0],by kernel_rfl,rfl,rfl⟩
instance :Plc prog 136 [(0,5),(5,14),(19,7),(26,1),(27,5)]:=⟨by kernel_rfl⟩
instance :Fld prog 136 0 0 5:=⟨by kernel_rfl⟩
instance :Fld prog 136 1 5 14:=⟨by kernel_rfl⟩
instance :Fld prog 136 2 19 7:=⟨by kernel_rfl⟩
instance :Fld prog 136 3 26 1:=⟨by kernel_rfl⟩
instance :Fld prog 136 4 27 5:=⟨by kernel_rfl⟩
instance :Typ prog 155 11 true:=⟨by kernel_rfl⟩
instance :Zer prog 155 [.v (.slice none 0 0), .v (.slice none 0 0), .v (.slice none 0 0), .v (.int .i64 0), .v (.int .i64 0), .v (.int .i64 0), .v (.int .i64 0), .v (.string ⟨#[]⟩), .v (.bool false), .v (.bool false), .v (.int .i64 0)]:=⟨[.slice none 0 0, .slice none 0 0, .slice none 0 0, .int .i64 0, .int .i64 0, .int .i64 0, .int .i64 0, .string ⟨#[]⟩, .bool false, .bool false, .int .i64 0],by kernel_rfl,rfl,rfl⟩
instance :Plc prog 155 [(0,2),(2,1),(3,2),(5,2),(7,1),(8,1),(9,1),(10,1)]:=⟨by kernel_rfl⟩
instance :Fld prog 155 0 0 2:=⟨by kernel_rfl⟩
instance :Fld prog 155 1 2 1:=⟨by kernel_rfl⟩
instance :Fld prog 155 2 3 2:=⟨by kernel_rfl⟩
instance :Fld prog 155 3 5 2:=⟨by kernel_rfl⟩
instance :Fld prog 155 4 7 1:=⟨by kernel_rfl⟩
instance :Fld prog 155 5 8 1:=⟨by kernel_rfl⟩
instance :Fld prog 155 6 9 1:=⟨by kernel_rfl⟩
instance :Fld prog 155 7 10 1:=⟨by kernel_rfl⟩
instance :Typ prog 168 5 true:=⟨by kernel_rfl⟩
instance :Zer prog 168 [.v (.string ⟨#[]⟩), .v (.int .i64 0), .v (.int .i64 0), .v (.int .i64 0), .v (.int .i64 0)]:=⟨[.string ⟨#[]⟩, .int .i64 0, .int .i64 0, .int .i64 0, .int .i64 0],by kernel_rfl,rfl,rfl⟩
instance :Plc prog 168 [(0,1),(1,1),(2,1),(3,1),(4,1)]:=⟨by kernel_rfl⟩
instance :Fld prog 168 0 0 1:=⟨by kernel_rfl⟩
instance :Fld prog 168 1 1 1:=⟨by kernel_rfl⟩
instance :Fld prog 168 2 2 1:=⟨by kernel_rfl⟩
instance :Fld prog 168 3 3 1:=⟨by kernel_rfl⟩
instance :Fld prog 168 4 4 1:=⟨by kernel_rfl⟩
instance :Elm prog 190 168 5 48:=⟨by kernel_rfl,by decide⟩
instance :Zer prog 220 [.v (.int .i64 0), .v (.int .i64 0), .v (.int .i64 0), .v (.int .i64 0)]:=⟨[.int .i64 0, .int .i64 0, .int .i64 0, .int .i64 0],by kernel_rfl,rfl,rfl⟩
instance :Plc prog 220 [(0,1),(1,2),(3,1)]:=⟨by kernel_rfl⟩
instance :Fld prog 220 0 0 1:=⟨by kernel_rfl⟩
instance :Fun prog 10:=⟨by kernel_rfl⟩
instance :Fun prog 11:=⟨by kernel_rfl⟩
instance :Fun prog 12:=⟨by kernel_rfl⟩
instance :Fun prog 14:=⟨by kernel_rfl⟩
instance :Fun prog 15:=⟨by kernel_rfl⟩
instance :Fun prog 16:=⟨by kernel_rfl⟩
instance :Fun prog 17:=⟨by kernel_rfl⟩
instance :Fun prog 18:=⟨by kernel_rfl⟩
instance :Fun prog 19:=⟨by kernel_rfl⟩
instance :Fun prog 20:=⟨by kernel_rfl⟩
instance :Fun prog 21:=⟨by kernel_rfl⟩
instance :Fun prog 29:=⟨by kernel_rfl⟩
instance :Fun prog 30:=⟨by kernel_rfl⟩
instance :Fun prog 31:=⟨by kernel_rfl⟩
instance :Fun prog 32:=⟨by kernel_rfl⟩
instance :Fun prog 33:=⟨by kernel_rfl⟩
instance :Fun prog 34:=⟨by kernel_rfl⟩
instance :Fun prog 35:=⟨by kernel_rfl⟩
instance :Fun prog 36:=⟨by kernel_rfl⟩
instance :Fun prog 37:=⟨by kernel_rfl⟩
instance :Fun prog 38:=⟨by kernel_rfl⟩
instance :Fun prog 39:=⟨by kernel_rfl⟩
instance :Fun prog 40:=⟨by kernel_rfl⟩
instance :Fun prog 42:=⟨by kernel_rfl⟩
instance :Fun prog 43:=⟨by kernel_rfl⟩
instance :Fun prog 44:=⟨by kernel_rfl⟩
instance :Fun prog 45:=⟨by kernel_rfl⟩
instance :Fun prog 46:=⟨by kernel_rfl⟩
instance :Fun prog 47:=⟨by kernel_rfl⟩
instance :Fun prog 48:=⟨by kernel_rfl⟩
instance :Fun prog 49:=⟨by kernel_rfl⟩
instance :Fun prog 50:=⟨by kernel_rfl⟩
instance :Fun prog 51:=⟨by kernel_rfl⟩
instance :Fun prog 52:=⟨by kernel_rfl⟩
instance :Fun prog 53:=⟨by kernel_rfl⟩
instance :Fun prog 55:=⟨by kernel_rfl⟩
instance :Fun prog 58:=⟨by kernel_rfl⟩
instance :Fun prog 59:=⟨by kernel_rfl⟩
instance :Fun prog 60:=⟨by kernel_rfl⟩
instance :Fun prog 61:=⟨by kernel_rfl⟩
instance :Fun prog 62:=⟨by kernel_rfl⟩
instance :Fun prog 63:=⟨by kernel_rfl⟩
instance :Fun prog 64:=⟨by kernel_rfl⟩
instance :Fun prog 65:=⟨by kernel_rfl⟩
instance :Fun prog 66:=⟨by kernel_rfl⟩
instance :Fun prog 68:=⟨by kernel_rfl⟩
instance :Fun prog 69:=⟨by kernel_rfl⟩
instance :Fun prog 70:=⟨by kernel_rfl⟩
instance :Fun prog 71:=⟨by kernel_rfl⟩
instance :Fun prog 72:=⟨by kernel_rfl⟩
instance :Fun prog 74:=⟨by kernel_rfl⟩
instance :Fun prog 77:=⟨by kernel_rfl⟩
instance :Fun prog 78:=⟨by kernel_rfl⟩
instance :Fun prog 79:=⟨by kernel_rfl⟩
instance :Fun prog 80:=⟨by kernel_rfl⟩
instance :Fun prog 81:=⟨by kernel_rfl⟩
instance :Fun prog 82:=⟨by kernel_rfl⟩
instance :Fun prog 86:=⟨by kernel_rfl⟩
instance :Fun prog 87:=⟨by kernel_rfl⟩
instance :Fun prog 88:=⟨by kernel_rfl⟩
instance :Fun prog 89:=⟨by kernel_rfl⟩
instance :Fun prog 90:=⟨by kernel_rfl⟩
instance :Fun prog 91:=⟨by kernel_rfl⟩
instance :Fun prog 92:=⟨by kernel_rfl⟩
instance :Fun prog 93:=⟨by kernel_rfl⟩
instance :Fun prog 94:=⟨by kernel_rfl⟩
instance :Fun prog 95:=⟨by kernel_rfl⟩
instance :Fun prog 96:=⟨by kernel_rfl⟩
instance :Fun prog 97:=⟨by kernel_rfl⟩
instance :Fun prog 98:=⟨by kernel_rfl⟩
instance :Fun prog 99:=⟨by kernel_rfl⟩
instance :Fun prog 102:=⟨by kernel_rfl⟩
instance :Fun prog 110:=⟨by kernel_rfl⟩
instance :Fun prog 111:=⟨by kernel_rfl⟩
instance :Fun prog 112:=⟨by kernel_rfl⟩
instance :Fun prog 113:=⟨by kernel_rfl⟩
instance :Fun prog 114:=⟨by kernel_rfl⟩
instance :Fun prog 120:=⟨by kernel_rfl⟩
instance :Fun prog 122:=⟨by kernel_rfl⟩
instance :Fun prog 123:=⟨by kernel_rfl⟩
instance :Fun prog 124:=⟨by kernel_rfl⟩
instance :Fun prog 125:=⟨by kernel_rfl⟩
instance :Fun prog 126:=⟨by kernel_rfl⟩
instance :Fun prog 128:=⟨by kernel_rfl⟩
instance :Fun prog 129:=⟨by kernel_rfl⟩
instance :Fun prog 130:=⟨by kernel_rfl⟩
instance :Fun prog 131:=⟨by kernel_rfl⟩
instance :Fun prog 132:=⟨by kernel_rfl⟩
instance :Fun prog 133:=⟨by kernel_rfl⟩
instance :Fun prog 134:=⟨by kernel_rfl⟩
instance :Fun prog 135:=⟨by kernel_rfl⟩
instance :Fun prog 136:=⟨by kernel_rfl⟩
instance :Fun prog 137:=⟨by kernel_rfl⟩
instance :Fun prog 138:=⟨by kernel_rfl⟩
instance :Fun prog 150:=⟨by kernel_rfl⟩
instance :Fun prog 151:=⟨by kernel_rfl⟩
instance :Fun prog 160:=⟨by kernel_rfl⟩
instance :Fun prog 164:=⟨by kernel_rfl⟩
instance :Fun prog 165:=⟨by kernel_rfl⟩
end Go.Proofs.YtobclmbkdhbnpaaGreatDoor
namespace Go.Proofs.YtobclmbkdhbnpaaGreatDoor
abbrev AB:=ByteArray
abbrev A6:=Int×Int
abbrev B6:=AB×Int
abbrev DE:=Int×A6
abbrev DP:=A6×AB×A6×A6
structure Nod where
 ino:Int
 kind:Int
 mode:Int
 uid:Int
 gid:Int
 parent:Int
 target:AB
 entries:List B6
structure Dvc where
 next:Int
 nodes:List Nod
abbrev AR:=List Dvc
structure Spc where
 files:AR
 mounts:List DE
def Nod.zero:Nod:=⟨0,0,0,0,0,0,⟨#[]⟩,[]⟩
def Hv{α:Type}(p:α→Bool)(l:List α):Int:=
 match l.findIdx? p with
 |some i=>(i:Int)
 |none=> -1
def En{α:Type}(l:List α)(i:Int):Option α:=if i<0 then none else l[i.toNat]?
theorem Hw{α:Type}(l:List α)(k:Nat):En l (k:Int)=l[k]?:=by
 simp[En,show¬((k:Int)<0) by omega]
theorem MB{α:Type}{l:List α}{i:Int}(h:i<0∨(l.length:Int)≤i):En l i=none:=by
 unfold En;split
 ·rfl
 rw[List.getElem?_eq_none];omega
theorem VE{α:Type}{l:List α}{i:Int}{x:α}(h:En l i=some x):0≤i∧i<l.length∧l[i.toNat]?=some x:=by
 unfold En at h;split at h
 ·cases h
 have:=(Ag.1 h).1;exact⟨by omega,by omega,h⟩
theorem Qe{α:Type}{p:α→Bool}{l:List α}{m:Nat}{x:α}(hx:l[m]?=some x)(hp:p x=true)(h:∀j y,j<m→l[j]?=some y→p y=false):l.findIdx? p=some m:=by
 have hl:m<l.length:=(Ag.1 hx).1;rw[List.findIdx?_eq_some_iff_getElem];refine⟨hl,by rw[(Ag.1 hx).2];exact hp,fun j hj=>?_⟩;have:=h j l[j] hj (BG _);simp[this]
theorem Qf{α:Type}{p:α→Bool}{l:List α}{m:Nat}{x:α}(hx:l[m]?=some x)(hp:p x=true)(h:∀j y,j<m→l[j]?=some y→p y=false):Hv p l=m:=by
 unfold Hv;rw[Qe hx hp h]
theorem VF{α:Type}{p:α→Bool}{l:List α}(h:∀j y,j<l.length→l[j]?=some y→p y=false):Hv p l= -1:=by
 unfold Hv;rw[List.findIdx?_eq_none_iff.2];intro x hx;obtain⟨j,hj,rfl⟩:=List.mem_iff_getElem.1 hx;exact h j _ hj (BG hj)
theorem Eb{α:Type}{P:α→Prop}{l:List α}{m:Nat}{x:α}(hx:l[m]?=some x)(h:∀j y,j<m→l[j]?=some y→P y)(hp:P x):∀j y,j<m+1→l[j]?=some y→P y:=by
 intro j y hj hy;by_cases e:j=m
 ·subst e;rw[hx]at hy;cases hy;exact hp
 exact h j y (by omega) hy
def ER(f:AR)(at_:A6):Int:=
 match En f at_.1 with
 |none=> -1
 |some d=>Hv (fun n:Nod=>n.ino==at_.2) d.nodes
def Bj(f:AR)(at_:A6):Option Nod:=
 match En f at_.1 with
 |none=>none
 |some d=>d.nodes.find? (fun n:Nod=>n.ino==at_.2)
theorem Qg{α:Type}{p:α→Bool}{l:List α}:(l.findIdx? p).bind (fun i=>l[i]?)=l.find? p:=by
 cases h:l.findIdx? p with
 |none=>
   rw[List.findIdx?_eq_none_iff]at h;simp only[Option.bind_none];exact(List.find?_eq_none.2 (fun x hx=>by simp[h x hx])).symm
 |some i=>
   obtain⟨hi,hp,hf⟩:=List.findIdx?_eq_some_iff_getElem.1 h;simp only[Option.bind_some,BG hi];exact(List.find?_eq_some_iff_getElem.2 ⟨hp,i,hi,rfl,fun j hj=>by simpa using hf j hj⟩).symm
theorem H5(f:AR)(at_:A6):(ER f at_= -1∧Bj f at_=none)∨
    ∃(k i:Nat) (d:Dvc) (n:Nod),at_.1=k∧f[k]?=some d∧d.nodes[i]?=some n∧n.ino=at_.2∧ER f at_=i∧Bj f at_=some n:=by
 unfold ER Bj
 cases h:En f at_.1 with
 |none=>exact .inl ⟨rfl,rfl⟩
 |some d=>
   obtain⟨h0,h1,h2⟩:=VE h;simp only[←Qg];unfold Hv
   cases hi:d.nodes.findIdx? (fun n:Nod=>n.ino==at_.2)with
   |none=>exact .inl ⟨rfl,rfl⟩
   |some i=>
     obtain⟨hl,hp,_⟩:=List.findIdx?_eq_some_iff_getElem.1 hi;exact .inr ⟨at_.1.toNat,i,d,d.nodes[i],by omega,h2,BG hl,by simpa using hp,rfl,by simp⟩
theorem MC(a b:AB):(a.toList==b.toList)=decide (a=b):=by
 rw[ByteArray.toList_eq,ByteArray.toList_eq,Bool.eq_iff_iff];simp only[beq_iff_eq,decide_eq_true_eq];constructor
 ·intro h
  cases a with
  |mk a=>
    cases b with
    |mk b=>exact congrArg ByteArray.mk (Array.toList_inj.1 h)
 intro h;rw[h]
def GV(c:UInt8):Bool:= !((c.toNat:Int)==0)&& !((c.toNat:Int)==47)
def Da(s:AB):Bool:=
 if s.size<1∨12<s.size then false else if(s.toList==[46])=true then false else if(s.toList==[46,46])=true then false else s.data.toList.all GV
def Hy(s:AB):Bool:=s.data.toList.all (fun c=> !((c.toNat:Int)==0))&&decide (1≤s.size)&&decide (s.size≤128)
theorem Qh{p:UInt8→Bool}{s:AB}(h:∀j (hj:j<s.size),p s[j]=true):s.data.toList.all p=true:=by
 rw[List.all_eq_true];intro c hc;obtain⟨j,hj,rfl⟩:=List.mem_iff_getElem.1 hc;exact h j (by simpa using hj)
theorem Nr{p:UInt8→Bool}{s:AB}{j:Nat}(hj:j<s.size)(h:p s[j]=false):s.data.toList.all p=false:=by
 rw[List.all_eq_false];refine⟨s[j],?_,by simp[h]⟩;have:s[j]=s.data.toList[j]'(by simpa using hj):=rfl;rw[this];exact List.getElem_mem _
theorem Qi{p:UInt8→Bool}{s:AB}{m:Nat}(hm:m<s.size)(h:∀j (hj:j<s.size),j<m→p s[j]=true)(hp:p s[m]=true):∀j (hj:j<s.size),j<m+1→p s[j]=true:=by
 intro j hj hlt;by_cases e:j=m
 ·subst e;exact hp
 exact h j hj (by omega)
def Al(f:AR)(at_:A6):Bool:=
 match Bj f at_ with
 |none=>false
 |some n=>n.kind==2
def C9(f:AR)(dir:A6)(name:AB):Int:=
 match Bj f dir with
 |none=>2
 |some n=>if n.kind=2 then(if Da name then 0 else 22)else 20
def GW(f:AR)(dir:A6):Bool:=
 match Bj f dir with
 |none=>false
 |some n=>decide (12≤n.entries.length)
def H6(f:AR)(dir:A6):Bool:=
 match Bj f dir with
 |none=>true
 |some n=>decide (n.entries.length=0)
def AK(f:AR)(dir:A6)(name:AB):A6×Int:=
 match Bj f dir with
 |none=>((0,0),2)
 |some n=>if n.kind=2 then
     match n.entries.find? (fun e:B6=>decide (e.1=name))with
     |none=>((0,0),2)
     |some e=>((dir.1,e.2),0)
   else((0,0),20)
def ES(n:Nod):Bool:=
 if n.kind<1∨3<n.kind∨n.mode<0∨511<n.mode∨n.uid<0∨4294967295<n.uid∨n.gid<0∨4294967295<n.gid then false
 else if n.kind=3 then Hy n.target else n.target.toList.isEmpty
end Go.Proofs.YtobclmbkdhbnpaaGreatDoor
namespace Go.Proofs.YtobclmbkdhbnpaaGreatDoor
def EK(a b:AB):Bool:=Op.bytesLess a.toList b.toList
def Eo(name:AB)(ino:Int):Bool→List B6→List B6
 |done,[]=>if done then[]else[(name,ino)]
 |done,e::r=>
   (if !done&& !EK e.1 name then[(name,ino)]else[])++((if e.1=name then[]else[e])++Eo name ino (done|| !EK e.1 name) r)
def CE(es:List B6)(name:AB)(ino:Int):List B6:=Eo name ino (ino==0) es
def CV(ino:Int)(es:List B6):Nat:=es.countP fun e:B6=>e.2==ino
def Bc(ino:Int)(ns:List Nod):Nat:=CV ino (ns.flatMap fun n=>n.entries)
def FQ(f:AR)(at_:A6):Nat:=
 match Bj f at_,En f at_.1 with
 |some _,some d=>Bc at_.2 d.nodes
 |_,_=>0
theorem MD{ino:Int}{es:List B6}{k:Nat}{e:B6}(h:es[k]?=some e):CV ino (es.take (k+1))=CV ino (es.take k)+(if e.2==ino then 1 else 0):=by
 unfold CV;rw[List.take_add_one,h,List.countP_append];simp[List.countP_cons]
theorem VG(ino:Int)(es:List B6):CV ino es≤es.length:=List.countP_le_length
theorem VH{ino:Int}{ns:List Nod}{m:Nat}{n:Nod}(h:ns[m]?=some n):Bc ino (ns.take (m+1))=Bc ino (ns.take m)+CV ino n.entries:=by
 unfold Bc CV;rw[List.take_add_one,h,List.flatMap_append,List.countP_append];simp
def Ct(ino:Int)(ns:List Nod):List Nod:=ns.filter fun n=>n.ino != ino
def ME:Nod:=⟨1,2,493,0,0,1,⟨#[]⟩,[]⟩
def Jd:Dvc:=⟨2,[ME]⟩
def E8(n:Int):AR×Int:=if n<1∨3<n then([],50)else(List.replicate n.toNat Jd,0)
abbrev Df:=AR×List DP×Int
def E0(n:Nod)(next dirIno:Int):Nod:=⟨next,n.kind,n.mode,n.uid,n.gid,if n.kind=2 then dirIno else 0,n.target,[]⟩
end Go.Proofs.YtobclmbkdhbnpaaGreatDoor
namespace Go.Proofs.YtobclmbkdhbnpaaGreatDoor
open Go.RowKit
theorem Cp{α:Type}(enc:α→List AV){l:List α}{k:Nat}(h:(k:Int)<((l.map enc).length:Int)):k<l.length∧∃x,l[k]?=some x∧(l.map enc)[k]?=some (enc x)∧(l.take (k+1)).map enc=(l.take k).map enc++[enc x]:=by
 have hk:k<l.length:=by simpa using h
 refine⟨hk,l[k],BG hk,by simp[hk],?_⟩;rw[List.take_succ_eq_append_getElem hk,List.map_append];rfl
theorem D0{α:Type}(enc:α→List AV){l:List α}{k:Nat}(hk:k≤l.length)(h:¬(k:Int)<((l.map enc).length:Int)):k=l.length:=by
 simp at h;omega
theorem vb{a b:Bool}(h:a=b):AV.v (.bool a)=AV.v (.bool b):=by rw[h]
theorem vi{k:IntKind}{a b:Int}(h:a=b):AV.v (.int k a)=AV.v (.int k b):=by rw[h]
def A7(x:A6):List AV:=[.v (.int .i64 x.1), .v (.int .i64 x.2)]
def CA(e:B6):List AV:=[.v (.string e.1), .v (.int .i64 e.2)]
def AW(n:Nod):List AV:=[.v (.int .i64 n.ino), .v (.int .i64 n.kind), .v (.int .i64 n.mode), .v (.int .i64 n.uid), .v (.int .i64 n.gid), .v (.int .i64 n.parent), .v (.string n.target), .sl 2 (n.entries.map CA) none]
def Bp(d:Dvc):List AV:=[.v (.int .i64 d.next), .sl 8 (d.nodes.map AW) none]
def Am(f:AR):List AV:=[.sl 2 (f.map Bp) none]
structure FlsB(f:AR):Prop where
 few:f.length≤1000
 nodes:∀d∈f,d.nodes.length≤1000
 ents:∀d∈f,∀n∈d.nodes,n.entries.length≤1000
theorem Ns{f:AR}{a:A6}{k:Nat}{d:Dvc}(hk:a.1=(k:Int))(hd:f[k]?=some d):ER f a=Hv (fun n:Nod=>n.ino==a.2) d.nodes:=by
 unfold ER;rw[hk,Hw,hd]
def AU(f:AR)(a:A6):Nod:=(Bj f a).getD Nod.zero
def Cd(f:AR)(a:A6):Bool:=(Bj f a).isSome
theorem Fb(f:AR)(a:A6):Al f a=(Cd f a&&decide ((AU f a).kind=2)):=by
 unfold Al Cd AU;cases Bj f a<;>simp[NQ]
theorem Ki{f:AR}(hf:FlsB f)(a:A6):(AU f a).entries.length≤1000:=by
 rcases H5 f a with⟨-,h⟩|⟨k,i,d,n, -,h1,h2, -, -,h⟩
 ·simp[AU,h,Nod.zero]
 simp only[AU,h,Option.getD_some];exact hf.ents d (Au h1) n (Au h2)
section
theorem Hz(f:AR)(a:A6)(hf:FlsB f):AFn prog 39 [.agg (Am f), .agg (A7 a)] (fun r=>r= .v (.int .i64 (ER f a))):=by
 refine enter Tryz.func39 rfl rfl rfl rfl rfl 0 rfl ?_;refine w_ (b_ (h:=b_ (h:=a_ (h:=e_ (q_ (w_ (f_ (h:=l_ (h:=BQ (h:=m_ (h:=?_)))))))))));refine Aw false rfl rfl (fun hb1=>?_) (fun hb1=>?_)
 ·have hc1:=bp hb1;refine A3 (h:=A3 (h:=A3 (h:=A3 (h:=A3 (h:=A3 (h:=AY (h:=e_ (CD (h:=w_ (a_ (h:=e_ (A4 (A9 (?_))))))))))))));refine AD ?_;exact vi (by unfold ER;rw[MB (.inl hc1)])
 have hc1:=bp hb1;refine f_ (h:=l_ (h:=f_ (h:=l_ (h:=n_ (h:=Fz (h:=Aj (h:=e_ (?_))))))));refine AA rfl (fun hb2=>?_) (fun hb2=>?_)
 ·have hc2:=bp hb2;refine w_ (a_ (h:=e_ (A4 (A9 (?_)))));refine AD ?_;exact vi (by unfold ER;rw[MB (.inr (by rw[List.length_map]at hc2;exact hc2))])
 have hc2:=bp hb2;obtain⟨k,hk⟩:=Int.eq_ofNat_of_zero_le (show 0≤a.1 by omega);rw[hk]at hc2;obtain⟨-,d,hd,hrow, -⟩:=Cp Bp (l:=f) (k:=k) (by omega);have hdn:=hf.nodes d (Au hd);refine AO (w_ (f_ (h:=l_ (h:=f_ (h:=l_ (h:=?_))))));refine A8 rfl (DZ (n:=k) rfl rfl hk hrow ?_);refine f_ (h:=l_ (h:=a_ (h:=e_ (q_ (w_ (a_ (h:=e_ (Ap (?_)))))))));refine By (fun m s=>∃j:Nat,j≤d.nodes.length∧m=d.nodes.length - j∧(∀i y,i<j→d.nodes[i]?=some y→(y.ino==a.2)=false)∧s=⟨look [(3, .bp 1 0),(5, .sl 8 (d.nodes.map AW) none),(6, .v (.int .i64 (j:Int)))],⟨[Am f,A7 a],[]⟩⟩) (d.nodes.length) ((wk 2 0)) (⟨0,by omega,rfl,fun i y hi=>by omega,rfl⟩) ?_;rintro m s ⟨j,hj,rfl,ha,rfl⟩;refine q_ (w_ (m_ (h:=m_ (h:=n_ (h:=BQ (h:=e_ (?_)))))));refine AA rfl (fun hb3=>?_) (fun hb3=>?_)
 ·have hc3:=bp hb3;obtain⟨hlt,n,hy,hrow2, -⟩:=Cp AW hc3;refine AO (q_ (Ap (q_ (Dp 8 (h:=AQ 0 (h:=AQ 1 (h:=DD 2 (h:=AJ 3 (h:=AF 4 (h:=AJ 5 (h:=AF 6 (h:=GU 7 (h:=z_ (h:=t_ (?_)))))))))))))));refine AA rfl (fun hb4=>?_) (fun hb4=>?_)
  ·have hc4:=bp hb4;refine w_ (m_ (h:=a_ (h:=e_ (A4 (Ab (A9 (A9 (Ab (A9 (?_))))))))));refine AD ?_;exact vi (by rw[Ns hk hd];exact(Qf hy (by simpa using hc4) ha).symm)
  have hc4:=bp hb4;refine BH (Ay (t_ (AX (m_ (h:=BB (h:=a_ (h:=AT (?_))))))));refine AG ?_;refine⟨_,_,?_,⟨j+1,by omega,rfl,Eb hy ha (by simpa using hc4),rfl⟩,(wk 2 0)⟩;omega
 have hc3:=bp hb3;have e:=D0 AW hj hc3;subst e;refine Ba (Ao (Ao (Bb (t_ (w_ (a_ (h:=e_ (A4 (?_)))))))));refine AD ?_;exact vi (by rw[Ns hk hd];exact(VF (fun i y hi hy=>ha i y hi hy)).symm)
theorem E1(f:AR)(a:A6)(hf:FlsB f):AFn prog 29 [.agg (Am f), .agg (A7 a)] (fun r=>r= .tup [.agg (AW (AU f a)), .v (.bool (Cd f a))]):=by
 refine enter Tryz.func29 rfl rfl rfl rfl rfl 0 rfl ?_;refine w_ (b_ (h:=b_ (h:=Ak (h:=a_ (h:=e_ (w_ (l_ (h:=l_ (h:=?_)))))))));refine A8 rfl (AN (Hz f a hf) ?_);rintro r rfl;refine a_ (h:=e_ (q_ (w_ (m_ (h:=BQ (h:=e_ (?_)))))));refine AA rfl (fun hb1=>?_) (fun hb1=>?_)
 ·have hc1:=bp hb1
  have e:Bj f a=none:=by
   rcases H5 f a with h|⟨k,i,d,n, -, -, -, -,h, -⟩
   ·exact h.2
   exfalso;omega
  refine w_ (Aa (h:=s_ (h:=a_ (h:=e_ (A4 (A9 (?_)))))));refine BS (r:= .tup [.agg (AW (AU f a)), .v (.bool (Cd f a))]) none (h5:=?_) (h6:=⟨rfl,rfl,rfl⟩);rw[show AU f a=Nod.zero by simp[AU,e],show Cd f a=false by simp[Cd,e]];exact(by repeat (first|exact AM _|exact LeA.nil _|exact LeL.refl _|refine LeA.agg ?_|refine LeA.tup ?_|exact LeL.nil|refine LeL.cons ?_ ?_|exact LeA.any _))
 have hc1:=bp hb1;obtain⟨k,i,d,n,g1,g2,g3,g4,g5,g6⟩:=(H5 f a).resolve_left (fun h=>by omega);rw[g5];have hr1:(f.map Bp)[k]?=some (Bp d):=by rw[List.getElem?_map,g2];rfl
 have hr2:(d.nodes.map AW)[i]?=some (AW n):=by rw[List.getElem?_map,g3];rfl
 have hen:=hf.ents d (Au g2) n (Au g3);refine AO (w_ (f_ (h:=l_ (h:=f_ (h:=l_ (h:=?_))))));refine A8 rfl (DZ (n:=k) rfl rfl g1 hr1 ?_);refine f_ (h:=l_ (h:=m_ (h:=?_)));refine A8 rfl (DZ (n:=i) rfl rfl rfl hr2 ?_);refine l_ (h:=Ak (h:=s_ (h:=e_ (w_ (f_ (h:=l_ (h:=?_)))))))
 first|refine A8 rfl (Ei rfl rfl rfl (by simp;omega) (by repeat constructor) ?_)|refine A8 rfl (Ej rfl rfl (by simp;omega) (by repeat constructor) ?_)
 refine f_ (h:=s_ (h:=e_ (w_ (l_ (h:=s_ (h:=a_ (h:=e_ (A4 (?_)))))))));refine AD ?_;rw[show AU f a=n by simp[AU,g6],show Cd f a=true by simp[Cd,g6]];rfl
theorem GX(f:AR)(a:A6)(hf:FlsB f):AFn prog 15 [.agg (Am f), .agg (A7 a)] (fun r=>r= .v (.bool (Al f a))):=by
 refine enter Tryz.func15 rfl rfl rfl rfl rfl 0 rfl ?_;refine w_ (b_ (h:=b_ (h:=a_ (h:=e_ (w_ (l_ (h:=l_ (h:=?_))))))));refine A8 rfl (AN (E1 f a hf) ?_);rintro r rfl;refine m_ (h:=x_ (h:=x_ (h:=Ak (h:=s_ (h:=a_ (h:=e_ (w_ (m_ (h:=m_ (h:=?_))))))))));refine Aw true rfl rfl (fun hb1=>?_) (fun hb1=>?_)
 ·have hc1:=bp hb1;refine f_ (h:=l_ (h:=Ah (h:=AY (h:=a_ (h:=e_ (A4 (?_)))))));refine AD ?_;exact vb (by rw[Fb];simp[*])
 have hc1:=bp hb1;refine A3 (h:=A3 (h:=A3 (h:=Aj (h:=a_ (h:=e_ (A4 (?_)))))));refine AD ?_;exact vb (by rw[Fb];simp[*])
end
theorem G0{α:Type}{p:α→Bool}{l:List α}{j:Nat}{x:α}(hx:l[j]?=some x)(hp:p x=true)(h:∀i y,i<j→l[i]?=some y→p y=false):l.find? p=some x:=by
 have:=Qe hx hp h;rw[←Qg,this]
 simpa using hx
theorem G4{α:Type}{p:α→Bool}{l:List α}(h:∀i y,i<l.length→l[i]?=some y→p y=false):l.find? p=none:=by
 rw[List.find?_eq_none];intro x hx;obtain⟨i,hi,rfl⟩:=List.mem_iff_getElem.1 hx;simp[h i _ hi (BG hi)]
theorem Qj{f:AR}{a:A6}(h:Cd f a=true):Bj f a=some (AU f a):=by
 unfold Cd at h;unfold AU
 cases hn:Bj f a with
 |none=>rw[hn]at h;cases h
 |some n=>rfl
theorem Qk{f:AR}{a:A6}(h:Cd f a=false):Bj f a=none:=by
 unfold Cd at h
 cases hn:Bj f a with
 |none=>rfl
 |some n=>rw[hn]at h;cases h
section
theorem H7(f:AR)(a:A6)(name:AB)(hf:FlsB f):AFn prog 10 [.agg (Am f), .agg (A7 a), .v (.string name)] (fun r=>r= .tup [.agg (A7 (AK f a name).1), .v (.int .i64 (AK f a name).2)]):=by
 have hen:=Ki hf a;refine enter Tryz.func10 rfl rfl rfl rfl rfl 0 rfl ?_;refine w_ (b_ (h:=b_ (h:=Ak (h:=a_ (h:=e_ (w_ (l_ (h:=l_ (h:=?_)))))))));refine A8 rfl (AN (E1 f a hf) ?_);rintro r rfl;refine m_ (h:=x_ (h:=x_ (h:=Ak (h:=s_ (h:=a_ (h:=e_ (q_ (w_ (m_ (h:=Bt (h:=e_ (?_))))))))))));refine AA rfl (fun hb1=>?_) (fun hb1=>?_)
 ·have hc1:=bp hb1;have e:=Qk hc1;refine w_ (Aa (h:=s_ (h:=a_ (h:=e_ (A4 (A9 (?_)))))));refine AD ?_;rw[show AK f a name=((0,0),2) by simp[AK,e]];rfl
 have hc1:=bp hb1;have e:=Qj hc1;refine AO (q_ (w_ (f_ (h:=l_ (h:=Bf (h:=e_ (?_)))))));refine AA rfl (fun hb2=>?_) (fun hb2=>?_)
 ·have hc2:=bp hb2;refine w_ (Aa (h:=s_ (h:=a_ (h:=e_ (A4 (A9 (?_)))))));refine AD ?_;rw[show AK f a name=((0,0),20) by simp[AK,e,hc2]];rfl
 have hc2:=bp hb2;refine AO (q_ (w_ (a_ (h:=e_ (Ap (?_))))));refine By (fun m s=>∃j:Nat,j≤(AU f a).entries.length∧m=(AU f a).entries.length - j∧(∀i y,i<j→(AU f a).entries[i]?=some y→decide (y.1=name)=false)∧s=⟨look [(2, .v (.string name)),(4, .bp 1 0),(6, .bp 2 0),(8, .bp 3 0),(10, .v (.int .i64 (j:Int)))],⟨[Am f,A7 a,[.v (.int .i64 0), .v (.int .i64 0)],AW (AU f a)],[]⟩⟩) ((AU f a).entries.length) ((wk 4 0)) (⟨0,by omega,rfl,fun i y hi=>by omega,rfl⟩) ?_;rintro m s ⟨j,hj,rfl,ha,rfl⟩;refine q_ (w_ (m_ (h:=f_ (h:=l_ (h:=n_ (h:=BQ (h:=e_ (?_))))))));refine AA rfl (fun hb3=>?_) (fun hb3=>?_)
 ·have hc3:=bp hb3;obtain⟨hlt,x,hy,hrow, -⟩:=Cp CA hc3;refine AO (q_ (Ap (w_ (f_ (h:=l_ (h:=m_ (h:=i_ (h:=f_ (h:=l_ (h:=m_ (h:=Ah (h:=e_ (?_)))))))))))));refine AA rfl (fun hb4=>?_) (fun hb4=>?_)
  ·have hc4:=bp hb4;refine q_ (Bo ([(0,Am f),(1,A7 a),(3,AW (AU f a))]) 11 (h:=AJ 0 (h:=AF 1 (h:=AJ 2 (h:=AF 3 (h:=AQ 4 (h:=DD 5 (h:=AJ 6 (h:=AF 7 (h:=Fy 8 (h:=?_)))))))))));refine BA 9 rfl (B1 rfl rfl rfl rfl rfl rfl (by repeat constructor) (by repeat constructor) ?_);refine o_ (h:=BO 10 (h:=z_ (h:=t_ (A4 (Ab (A9 (A9 (Ab (A9 (?_))))))))));refine AD ?_;rw[show AK f a name=((a.1,x.2),0) by simp only[AK,e];rw[if_pos (by omega),G0 hy (by simpa using hc4) ha]];rfl
  have hc4:=bp hb4;refine BH (Ay (t_ (AX (m_ (h:=BB (h:=a_ (h:=AT (?_))))))));refine AG ?_;refine⟨_,_,?_,⟨j+1,by omega,rfl,Eb hy ha (by simpa using hc4),rfl⟩,(wk 4 0)⟩;omega
 have hc3:=bp hb3;have e3:=D0 CA hj hc3;subst e3;refine Ba (Ao (Ao (Bb (t_ (w_ (Aa (h:=s_ (h:=a_ (h:=e_ (A4 (?_)))))))))));refine AD ?_;rw[show AK f a name=((0,0),2) by simp only[AK,e];rw[if_pos (by omega),G4 ha]];rfl
end
theorem GY{P:Program}{ev:Operand→Option AV}{h:AH}{R:AV→AH→Prop}{d:Option Tmp}{ty:TypeId}{pos:String}{af:Array Edge}{gd:Option (Nat×Bool)}{T:TypeId}{x ix:Operand}{s:ByteArray}{n:Nat}{k:IntKind}{i:Int}(hu:P.underlying T=some .string)
    (hx:ev x=some (.v (.string s))) (hi:ev ix=some (.v (.int k i))) (hn:i=(n:Int)) (hlt:n<s.size) (hR:R (.v (.int .u8 (s[n].toNat:Int))) h):AStep P ⟨d, .index T x ix,ty,pos,af,gd⟩ ev h R:=by
 refine CU (fun _ G w ec _ he=>?_) hR;have h1:=he x (by simp[Op.operands]) _ hx;have h2:=he ix (by simp[Op.operands]) _ hi;simp only[rep]at h1 h2;subst hn;refine⟨.int .u8 (s[n].toNat:Int),?_,by simp only[rep]⟩;have e:s[n]?=some s[n]:=getElem?_pos s n hlt;simp[execOp,h1,h2,Instr.index,asIntOf,run_underlying hu,e]
theorem H8(s:AB):Da s=if s.size<1∨12<s.size then false else if s=⟨#[46]⟩then false else if s=⟨#[46,46]⟩then false else s.data.toList.all GV:=by
 unfold Da;have e1:=MC s ⟨#[46]⟩;have e2:=MC s ⟨#[46,46]⟩;rw[show(⟨#[46]⟩:ByteArray).toList=[46] by rw[ByteArray.toList_eq]]at e1;rw[show(⟨#[46,46]⟩:ByteArray).toList=[46,46] by rw[ByteArray.toList_eq]]at e2;rw[e1,e2];simp only[decide_eq_true_eq]
theorem VJ{c:UInt8}(h1:¬(c.toNat:Int)=0)(h2:¬(c.toNat:Int)=47):GV c=true:=by
 unfold GV;simp;omega
section
theorem Ql(s:AB)(hs:s.size≤100000):AFn prog 65 [.v (.string s)] (fun r=>r= .v (.bool (Da s))):=by
 refine enter Tryz.func65 rfl rfl rfl rfl rfl 0 rfl ?_;refine w_ (a_ (h:=e_ (q_ (w_ (m_ (h:=n_ (h:=BQ (h:=m_ (h:=?_)))))))));refine Aw false rfl rfl (fun hb1=>?_) (fun hb1=>?_)
 ·have hc1:=bp hb1;refine A3 (h:=A3 (h:=A3 (h:=AY (h:=m_ (h:=A3 (h:=A3 (h:=AY (h:=m_ (h:=A3 (h:=A3 (h:=AY (h:=e_ (CD (h:=w_ (a_ (h:=e_ (A4 (A9 (?_)))))))))))))))))));refine AD ?_;exact vb (by rw[H8,if_pos (by omega)])
 have hc1:=bp hb1;refine m_ (h:=n_ (h:=Co (h:=Aj (h:=m_ (h:=?_)))));refine Aw false rfl rfl (fun hb2=>?_) (fun hb2=>?_)
 ·have hc2:=bp hb2;refine A3 (h:=A3 (h:=AY (h:=m_ (h:=A3 (h:=A3 (h:=AY (h:=e_ (CD (h:=w_ (a_ (h:=e_ (A4 (A9 (?_))))))))))))));refine AD ?_;exact vb (by rw[H8,if_pos (by omega)])
 have hc2:=bp hb2;refine m_ (h:=Ah (h:=Aj (h:=m_ (h:=?_))));refine Aw false rfl rfl (fun hb3=>?_) (fun hb3=>?_)
 ·have hc3:=bp hb3;refine A3 (h:=A3 (h:=AY (h:=e_ (CD (h:=w_ (a_ (h:=e_ (A4 (A9 (?_))))))))));refine AD ?_;exact vb (by rw[H8,if_neg (by omega),if_pos hc3])
 have hc3:=bp hb3;refine m_ (h:=Ah (h:=Aj (h:=e_ (?_))));refine AA rfl (fun hb4=>?_) (fun hb4=>?_)
 ·have hc4:=bp hb4;refine w_ (a_ (h:=e_ (A4 (A9 (?_)))));refine AD ?_;exact vb (by rw[H8,if_neg (by omega),if_neg hc3,if_pos hc4])
 have hc4:=bp hb4;refine AO (q_ (w_ (a_ (h:=e_ (Ap (?_))))));refine By (fun m t=>∃j:Nat,j≤s.size∧m=s.size - j∧(∀i (hi:i<s.size),i<j→GV s[i]=true)∧t=⟨look [(0, .v (.string s)),(3, .v (.int .i64 (j:Int)))],⟨[],[]⟩⟩) (s.size) ((wk 0 0)) (⟨0,by omega,rfl,fun i _ hi=>by omega,rfl⟩) ?_;rintro m t ⟨j,hj,rfl,ha,rfl⟩;refine q_ (w_ (m_ (h:=m_ (h:=n_ (h:=BQ (h:=e_ (?_)))))));refine AA rfl (fun hb5=>?_) (fun hb5=>?_)
 ·have hc5:=bp hb5;have hlt:j<s.size:=by omega
  refine AO (q_ (Ap (w_ (m_ (h:=m_ (h:=?_))))));refine A8 rfl (GY (n:=j) Tryz.underlying9 rfl rfl rfl hlt ?_);refine Ah (h:=m_ (h:=?_));refine Aw false rfl rfl (fun hb6=>?_) (fun hb6=>?_)
  ·have hc6:=bp hb6;refine A3 (h:=A3 (h:=A3 (h:=A3 (h:=AY (h:=e_ (CD (h:=w_ (a_ (h:=e_ (A4 (Ab (A9 (A9 (Ab (A9 (?_))))))))))))))));refine AD ?_;exact vb (by rw[H8,if_neg (by omega),if_neg hc3,if_neg hc4,Nr hlt (by unfold GV;simp[hc6])])
  have hc6:=bp hb6;refine m_ (h:=m_ (h:=?_));refine Ax (GY (n:=j) Tryz.underlying9 rfl rfl rfl hlt ?_);refine Ah (h:=Aj (h:=e_ (?_)));refine AA rfl (fun hb7=>?_) (fun hb7=>?_)
  ·have hc7:=bp hb7;refine w_ (a_ (h:=e_ (A4 (Ab (A9 (A9 (Ab (A9 (?_)))))))));refine AD ?_;exact vb (by rw[H8,if_neg (by omega),if_neg hc3,if_neg hc4,Nr hlt (by unfold GV;simp[hc7])])
  have hc7:=bp hb7;refine BH (Ay (t_ (AX (m_ (h:=BB (h:=a_ (h:=AT (?_))))))));refine AG ?_;refine⟨_,_,?_,⟨j+1,by omega,rfl,Qi hlt ha (VJ hc6 hc7),rfl⟩,(wk 0 0)⟩;omega
 have hc5:=bp hb5;obtain rfl:j=s.size:=by omega
 refine Ba (Ao (Ao (Bb (t_ (w_ (a_ (h:=e_ (A4 (?_)))))))));refine AD ?_;exact vb (by rw[H8,if_neg (by omega),if_neg hc3,if_neg hc4,Qh (fun i hi=>ha i hi hi)])
end
theorem VK(f:AR)(a:A6):GW f a=decide (12≤(AU f a).entries.length):=by
 unfold GW AU;cases Bj f a<;>simp[Nod.zero]
theorem VL(f:AR)(a:A6):H6 f a=decide ((AU f a).entries.length=0):=by
 unfold H6 AU;cases Bj f a<;>simp[Nod.zero]
theorem VM{f:AR}{a:A6}{k:Nat}{d:Dvc}{n:Nod}(hk:a.1=(k:Int))(hd:f[k]?=some d)(hn:Bj f a=some n):FQ f a=Bc a.2 d.nodes:=by
 unfold FQ;rw[hn,hk,Hw,hd]
section
theorem VN(s:AB)(hs:s.size≤100000):AFn prog 74 [.v (.string s)] (fun r=>r= .v (.bool (Hy s))):=by
 refine enter Tryz.func74 rfl rfl rfl rfl rfl 0 rfl ?_;refine w_ (a_ (h:=e_ (q_ (w_ (a_ (h:=e_ (Ap (?_))))))));refine By (fun m t=>∃j:Nat,j≤s.size∧m=s.size - j∧(∀i (hi:i<s.size),i<j→(!((s[i].toNat:Int)==0))=true)∧t=⟨look [(0, .v (.string s)),(3, .v (.int .i64 (j:Int)))],⟨[],[]⟩⟩) (s.size) ((wk 0 0)) (⟨0,by omega,rfl,fun i _ hi=>by omega,rfl⟩) ?_;rintro m t ⟨j,hj,rfl,ha,rfl⟩;refine q_ (w_ (m_ (h:=m_ (h:=n_ (h:=BQ (h:=e_ (?_)))))));refine AA rfl (fun hb1=>?_) (fun hb1=>?_)
 ·have hc1:=bp hb1;have hlt:j<s.size:=by omega
  refine AO (q_ (Ap (w_ (m_ (h:=m_ (h:=?_))))));refine A8 rfl (GY (n:=j) Tryz.underlying9 rfl rfl rfl hlt ?_);refine Ah (h:=e_ (?_));refine AA rfl (fun hb2=>?_) (fun hb2=>?_)
  ·have hc2:=bp hb2;refine w_ (a_ (h:=e_ (A4 (Ab (A9 (A9 (Ab (A9 (?_)))))))));refine AD ?_;exact vb (by unfold Hy;rw[Nr hlt (by simp[hc2])];simp)
  have hc2:=bp hb2;refine BH (Ay (t_ (AX (m_ (h:=BB (h:=a_ (h:=AT (?_))))))));refine AG ?_;refine⟨_,_,?_,⟨j+1,by omega,rfl,Qi (p:=fun c=> !((c.toNat:Int)==0)) hlt ha (by simpa using hc2),rfl⟩,(wk 0 0)⟩;omega
 have hc1:=bp hb1;obtain rfl:j=s.size:=by omega
 have hal:=Qh (p:=fun c=> !((c.toNat:Int)==0)) (fun i hi=>ha i hi hi);refine Ba (Ao (Ao (Bb (t_ (w_ (m_ (h:=n_ (h:=Fz (h:=m_ (h:=?_))))))))));refine Aw true rfl rfl (fun hb3=>?_) (fun hb3=>?_)
 ·have hc3:=bp hb3;refine m_ (h:=n_ (h:=Kh (h:=AY (h:=a_ (h:=e_ (A4 (?_)))))));refine AD ?_;exact vb (by unfold Hy;rw[hal,Bool.eq_iff_iff];simp;omega)
 have hc3:=bp hb3;refine A3 (h:=A3 (h:=A3 (h:=Aj (h:=a_ (h:=e_ (A4 (?_)))))));refine AD ?_;exact vb (by unfold Hy;rw[hal,Bool.eq_iff_iff];simp;omega)
theorem Kj(f:AR)(a:A6)(name:AB)(hf:FlsB f)(hs:name.size≤100000):AFn prog 32 [.agg (Am f), .agg (A7 a), .v (.string name)] (fun r=>r= .v (.int .i64 (C9 f a name))):=by
 refine enter Tryz.func32 rfl rfl rfl rfl rfl 0 rfl ?_;refine w_ (b_ (h:=b_ (h:=a_ (h:=e_ (w_ (l_ (h:=l_ (h:=?_))))))));refine A8 rfl (AN (E1 f a hf) ?_);rintro r rfl;refine m_ (h:=x_ (h:=x_ (h:=Ak (h:=s_ (h:=a_ (h:=e_ (q_ (w_ (m_ (h:=Bt (h:=e_ (?_))))))))))));refine AA rfl (fun hb1=>?_) (fun hb1=>?_)
 ·have hc1:=bp hb1;have e:=Qk hc1;refine w_ (a_ (h:=e_ (A4 (A9 (?_)))));refine AD ?_;exact vi (by simp[C9,e])
 have hc1:=bp hb1;have e:=Qj hc1;refine AO (q_ (w_ (f_ (h:=l_ (h:=Bf (h:=e_ (?_)))))));refine AA rfl (fun hb2=>?_) (fun hb2=>?_)
 ·have hc2:=bp hb2;refine w_ (a_ (h:=e_ (A4 (A9 (?_)))));refine AD ?_;exact vi (by simp[C9,e,hc2])
 have hc2:=bp hb2;refine AO (q_ (w_ (m_ (h:=?_))));refine A8 rfl (AN (Ql name hs) ?_);rintro r rfl;refine Bt (h:=e_ (?_));refine AA rfl (fun hb3=>?_) (fun hb3=>?_)
 ·have hc3:=bp hb3;refine w_ (a_ (h:=e_ (A4 (A9 (?_)))));refine AD ?_;exact vi (by simp only[C9,e];rw[if_pos (by omega),hc3];rfl)
 have hc3:=bp hb3;refine AO (w_ (a_ (h:=e_ (A4 (?_)))));refine AD ?_;exact vi (by simp only[C9,e];rw[if_pos (by omega),hc3];rfl)
theorem Nt(f:AR)(a:A6)(hf:FlsB f):AFn prog 36 [.agg (Am f), .agg (A7 a)] (fun r=>r= .v (.bool (GW f a))):=by
 refine enter Tryz.func36 rfl rfl rfl rfl rfl 0 rfl ?_;refine w_ (b_ (h:=b_ (h:=a_ (h:=e_ (w_ (l_ (h:=l_ (h:=?_))))))));refine A8 rfl (AN (E1 f a hf) ?_);rintro r rfl;refine m_ (h:=x_ (h:=x_ (h:=Ak (h:=s_ (h:=a_ (h:=e_ (w_ (f_ (h:=l_ (h:=n_ (h:=Fz (h:=a_ (h:=e_ (A4 (?_)))))))))))))));refine AD ?_;exact vb (by rw[VK,Bool.eq_iff_iff];simp;omega)
theorem VO(f:AR)(a:A6)(hf:FlsB f):AFn prog 35 [.agg (Am f), .agg (A7 a)] (fun r=>r= .v (.bool (H6 f a))):=by
 refine enter Tryz.func35 rfl rfl rfl rfl rfl 0 rfl ?_;refine w_ (b_ (h:=b_ (h:=a_ (h:=e_ (w_ (l_ (h:=l_ (h:=?_))))))));refine A8 rfl (AN (E1 f a hf) ?_);rintro r rfl;refine m_ (h:=x_ (h:=x_ (h:=Ak (h:=s_ (h:=a_ (h:=e_ (w_ (f_ (h:=l_ (h:=n_ (h:=Ah (h:=a_ (h:=e_ (A4 (?_)))))))))))))));refine AD ?_;exact vb (by rw[VL,Bool.eq_iff_iff];simp)
theorem VP(n:Nod)(hs:n.target.size≤100000):AFn prog 51 [.agg (AW n)] (fun r=>r= .v (.bool (ES n))):=by
 have ee:n.target.toList.isEmpty=decide (n.target=⟨#[]⟩):=by
  rw[←MC n.target ⟨#[]⟩,show(⟨#[]⟩:ByteArray).toList=[] by rw[ByteArray.toList_eq]];cases n.target.toList<;>rfl
 refine enter Tryz.func51 rfl rfl rfl rfl rfl 0 rfl ?_;refine w_ (b_ (h:=a_ (h:=e_ (q_ (?_)))));refine Gz (⟨look [(1, .bp 0 0),(40, .v (.bool (decide (n.kind<1∨3<n.kind∨n.mode<0∨511<n.mode∨n.uid<0∨4294967295<n.uid∨n.gid<0∨4294967295<n.gid))))],⟨[AW n],[]⟩⟩) ?_ ?_
 ·skip
  refine AX (f_ (h:=l_ (h:=BQ (h:=m_ (h:=?_)))));refine Aw false rfl rfl (fun hb1=>?_) (fun hb1=>?_)
  ·have hc1:=bp hb1;refine A3 (h:=A3 (h:=A3 (h:=AY (h:=m_ (h:=A3 (h:=A3 (h:=A3 (h:=AY (h:=m_ (h:=A3 (h:=A3 (h:=A3 (h:=AY (h:=m_ (h:=A3 (h:=A3 (h:=A3 (h:=AY (h:=m_ (h:=A3 (h:=A3 (h:=A3 (h:=AY (h:=?_))))))))))))))))))))))));refine m_ (h:=A3 (h:=A3 (h:=A3 (h:=AY (h:=m_ (h:=A3 (h:=A3 (h:=A3 (h:=AY (h:=AT (?_)))))))))));refine AG ?_
   first|(exfalso;first|contradiction|omega)|exact B4 1 0 rfl rfl rfl rfl (by repeat (first|exact Sub.nil|refine B9 rfl rfl ?_|refine BD ?_|refine BE rfl ?_|refine BF rfl ?_|(apply Sub.of;(focus exact rfl);(focus exact LeA.of_eq (vb (by rw[Bool.eq_iff_iff];simp;try omega)));(focus exact rfl))))
  have hc1:=bp hb1;refine f_ (h:=l_ (h:=Co (h:=Aj (h:=m_ (h:=?_)))));refine Aw false rfl rfl (fun hb2=>?_) (fun hb2=>?_)
  ·have hc2:=bp hb2;refine A3 (h:=A3 (h:=A3 (h:=AY (h:=m_ (h:=A3 (h:=A3 (h:=A3 (h:=AY (h:=m_ (h:=A3 (h:=A3 (h:=A3 (h:=AY (h:=m_ (h:=A3 (h:=A3 (h:=A3 (h:=AY (h:=m_ (h:=A3 (h:=A3 (h:=A3 (h:=AY (h:=?_))))))))))))))))))))))));refine m_ (h:=A3 (h:=A3 (h:=A3 (h:=AY (h:=AT (?_))))));refine AG ?_
   first|(exfalso;first|contradiction|omega)|exact B4 1 0 rfl rfl rfl rfl (by repeat (first|exact Sub.nil|refine B9 rfl rfl ?_|refine BD ?_|refine BE rfl ?_|refine BF rfl ?_|(apply Sub.of;(focus exact rfl);(focus exact LeA.of_eq (vb (by rw[Bool.eq_iff_iff];simp;try omega)));(focus exact rfl))))
  have hc2:=bp hb2;refine f_ (h:=l_ (h:=BQ (h:=Aj (h:=m_ (h:=?_)))));refine Aw false rfl rfl (fun hb3=>?_) (fun hb3=>?_)
  ·have hc3:=bp hb3;refine A3 (h:=A3 (h:=A3 (h:=AY (h:=m_ (h:=A3 (h:=A3 (h:=A3 (h:=AY (h:=m_ (h:=A3 (h:=A3 (h:=A3 (h:=AY (h:=m_ (h:=A3 (h:=A3 (h:=A3 (h:=AY (h:=m_ (h:=A3 (h:=A3 (h:=A3 (h:=AY (h:=?_))))))))))))))))))))))));refine AT (?_);refine AG ?_
   first|(exfalso;first|contradiction|omega)|exact B4 1 0 rfl rfl rfl rfl (by repeat (first|exact Sub.nil|refine B9 rfl rfl ?_|refine BD ?_|refine BE rfl ?_|refine BF rfl ?_|(apply Sub.of;(focus exact rfl);(focus exact LeA.of_eq (vb (by rw[Bool.eq_iff_iff];simp;try omega)));(focus exact rfl))))
  have hc3:=bp hb3;refine f_ (h:=l_ (h:=Co (h:=Aj (h:=m_ (h:=?_)))));refine Aw false rfl rfl (fun hb4=>?_) (fun hb4=>?_)
  ·have hc4:=bp hb4;refine A3 (h:=A3 (h:=A3 (h:=AY (h:=m_ (h:=A3 (h:=A3 (h:=A3 (h:=AY (h:=m_ (h:=A3 (h:=A3 (h:=A3 (h:=AY (h:=m_ (h:=A3 (h:=A3 (h:=A3 (h:=AY (h:=AT (?_))))))))))))))))))));refine AG ?_
   first|(exfalso;first|contradiction|omega)|exact B4 1 0 rfl rfl rfl rfl (by repeat (first|exact Sub.nil|refine B9 rfl rfl ?_|refine BD ?_|refine BE rfl ?_|refine BF rfl ?_|(apply Sub.of;(focus exact rfl);(focus exact LeA.of_eq (vb (by rw[Bool.eq_iff_iff];simp;try omega)));(focus exact rfl))))
  have hc4:=bp hb4;refine f_ (h:=l_ (h:=BQ (h:=Aj (h:=m_ (h:=?_)))));refine Aw false rfl rfl (fun hb5=>?_) (fun hb5=>?_)
  ·have hc5:=bp hb5;refine A3 (h:=A3 (h:=A3 (h:=AY (h:=m_ (h:=A3 (h:=A3 (h:=A3 (h:=AY (h:=m_ (h:=A3 (h:=A3 (h:=A3 (h:=AY (h:=AT (?_)))))))))))))));refine AG ?_
   first|(exfalso;first|contradiction|omega)|exact B4 1 0 rfl rfl rfl rfl (by repeat (first|exact Sub.nil|refine B9 rfl rfl ?_|refine BD ?_|refine BE rfl ?_|refine BF rfl ?_|(apply Sub.of;(focus exact rfl);(focus exact LeA.of_eq (vb (by rw[Bool.eq_iff_iff];simp;try omega)));(focus exact rfl))))
  have hc5:=bp hb5;refine f_ (h:=l_ (h:=Co (h:=Aj (h:=m_ (h:=?_)))));refine Aw false rfl rfl (fun hb6=>?_) (fun hb6=>?_)
  ·have hc6:=bp hb6;refine A3 (h:=A3 (h:=A3 (h:=AY (h:=m_ (h:=A3 (h:=A3 (h:=A3 (h:=AY (h:=AT (?_))))))))));refine AG ?_
   first|(exfalso;first|contradiction|omega)|exact B4 1 0 rfl rfl rfl rfl (by repeat (first|exact Sub.nil|refine B9 rfl rfl ?_|refine BD ?_|refine BE rfl ?_|refine BF rfl ?_|(apply Sub.of;(focus exact rfl);(focus exact LeA.of_eq (vb (by rw[Bool.eq_iff_iff];simp;try omega)));(focus exact rfl))))
  have hc6:=bp hb6;refine f_ (h:=l_ (h:=BQ (h:=Aj (h:=m_ (h:=?_)))));refine Aw false rfl rfl (fun hb7=>?_) (fun hb7=>?_)
  ·have hc7:=bp hb7;refine A3 (h:=A3 (h:=A3 (h:=AY (h:=AT (?_)))));refine AG ?_
   first|(exfalso;first|contradiction|omega)|exact B4 1 0 rfl rfl rfl rfl (by repeat (first|exact Sub.nil|refine B9 rfl rfl ?_|refine BD ?_|refine BE rfl ?_|refine BF rfl ?_|(apply Sub.of;(focus exact rfl);(focus exact LeA.of_eq (vb (by rw[Bool.eq_iff_iff];simp;try omega)));(focus exact rfl))))
  have hc7:=bp hb7;refine f_ (h:=l_ (h:=Co (h:=Aj (h:=AT (?_)))));refine AG ?_
  first|(exfalso;first|contradiction|omega)|exact B4 1 0 rfl rfl rfl rfl (by repeat (first|exact Sub.nil|refine B9 rfl rfl ?_|refine BD ?_|refine BE rfl ?_|refine BF rfl ?_|(apply Sub.of;(focus exact rfl);(focus exact LeA.of_eq (vb (by rw[Bool.eq_iff_iff];simp;try omega)));(focus exact rfl))))
 skip
 refine AA rfl (fun hb8=>?_) (fun hb8=>?_)
 ·have hc8:=bp hb8;refine w_ (a_ (h:=e_ (A4 (A9 (?_)))));refine AD ?_;exact vb (by rw[ES,if_pos hc8])
 have hc8:=bp hb8;refine AO (q_ (w_ (f_ (h:=l_ (h:=Ah (h:=e_ (?_)))))));refine AA rfl (fun hb9=>?_) (fun hb9=>?_)
 ·have hc9:=bp hb9;refine w_ (f_ (h:=l_ (h:=?_)));refine A8 rfl (AN (VN n.target hs) ?_);rintro r rfl;refine a_ (h:=e_ (A4 (A9 (?_))));refine AD ?_;exact vb (by rw[ES,if_neg hc8,if_pos hc9])
 have hc9:=bp hb9;refine AO (w_ (f_ (h:=l_ (h:=Ah (h:=a_ (h:=e_ (A4 (?_))))))));refine AD ?_;exact vb (by rw[ES,if_neg hc8,if_neg hc9,ee])
theorem VQ(f:AR)(a:A6)(hf:FlsB f):AFn prog 66 [.agg (Am f), .agg (A7 a)] (fun r=>r= .v (.int .i64 (FQ f a:Int))):=by
 refine enter Tryz.func66 rfl rfl rfl rfl rfl 0 rfl ?_;refine w_ (b_ (h:=b_ (h:=a_ (h:=e_ (q_ (w_ (l_ (h:=l_ (h:=?_)))))))));refine A8 rfl (AN (Hz f a hf) ?_);rintro r rfl;refine BQ (h:=e_ (?_));refine AA rfl (fun hb1=>?_) (fun hb1=>?_)
 ·have hc1:=bp hb1
  have e:Bj f a=none:=by
   rcases H5 f a with h|⟨k,i,d,n, -, -, -, -,h, -⟩
   ·exact h.2
   exfalso;omega
  refine w_ (a_ (h:=e_ (A4 (A9 (?_)))));refine AD ?_;exact vi (by simp[FQ,e])
 have hc1:=bp hb1;obtain⟨k,i,d,n,g1,g2,g3,g4,g5,g6⟩:=(H5 f a).resolve_left (fun h=>by omega);have hr1:(f.map Bp)[k]?=some (Bp d):=by rw[List.getElem?_map,g2];rfl
 have hdn:=hf.nodes d (Au g2);refine AO (w_ (a_ (h:=e_ (w_ (f_ (h:=l_ (h:=f_ (h:=l_ (h:=?_)))))))));refine A8 rfl (DZ (n:=k) rfl rfl g1 hr1 ?_);refine f_ (h:=l_ (h:=a_ (h:=e_ (q_ (w_ (a_ (h:=e_ (Ap (?_)))))))));refine By (fun m s=>∃j c:Nat,j≤d.nodes.length∧m=d.nodes.length - j∧c=Bc a.2 (d.nodes.take j)∧c≤1000 * j∧s=⟨look [(3, .bp 1 0),(5, .v (.int .i64 (c:Int))),(6, .sl 8 (d.nodes.map AW) none),(7, .v (.int .i64 (j:Int)))],⟨[Am f,A7 a],[]⟩⟩) (d.nodes.length) ((wk 2 0)) (⟨0,0,by omega,rfl,rfl,by omega,rfl⟩) ?_;rintro m s ⟨j,c,hj,rfl,hcn,hcb,rfl⟩;refine q_ (w_ (m_ (h:=m_ (h:=n_ (h:=BQ (h:=e_ (?_)))))));refine AA rfl (fun hb2=>?_) (fun hb2=>?_)
 ·have hc2:=bp hb2;obtain⟨hlt,x,hx,hrow, -⟩:=Cp AW hc2;have hen:=hf.ents d (Au g2) x (Au hx);refine AO (q_ (Ap (w_ (a_ (h:=e_ (Ap (?_)))))));refine By (fun m s=>∃i c2:Nat,i≤x.entries.length∧m=x.entries.length - i∧c2=c+CV a.2 (x.entries.take i)∧c2≤c+i∧s=⟨look [(3, .bp 1 0),(5, .v (.int .i64 (c2:Int))),(6, .sl 8 (d.nodes.map AW) none),(7, .v (.int .i64 (j:Int))),(8, .v (.int .i64 (i:Int)))],⟨[Am f,A7 a],[]⟩⟩) (x.entries.length) ((wk 2 0)) (⟨0,c,by omega,rfl,rfl,by omega,rfl⟩) ?_;rintro m s ⟨i,c2,hi,rfl,hc2n,hc2b,rfl⟩;refine q_ (w_ (m_ (h:=m_ (h:=m_ (h:=i_ (h:=f_ (h:=l_ (h:=n_ (h:=BQ (h:=e_ (?_)))))))))));refine AA rfl (fun hb3=>?_) (fun hb3=>?_)
  ·have hc3:=bp hb3;obtain⟨hlt3,y,hy,hrow3, -⟩:=Cp CA hc3;refine AO (q_ (Ap (q_ (Dp 12 (h:=AQ 0 (h:=AQ 1 (h:=DD 2 (h:=AJ 3 (h:=AF 4 (h:=AQ 5 (h:=DD 6 (h:=AJ 7 (h:=AF 8 (h:=AJ 9 (h:=AF 10 (h:=GU 11 (h:=z_ (h:=t_ (?_)))))))))))))))))));refine AA rfl (fun hb4=>?_) (fun hb4=>?_)
   ·have hc4:=bp hb4;refine AX (m_ (h:=BB (h:=a_ (h:=AT (Ay (t_ (AX (m_ (h:=BB (h:=a_ (h:=AT (?_))))))))))));refine AG ?_
    first|(refine⟨_,_,?_,⟨i+1,c2+1,by omega,rfl,?_,by omega,rfl⟩,(wk 2 0)⟩<;>first|omega|(rw[MD hy];simp[hc4];omega))|(refine⟨_,_,?_,⟨i+1,c2,by omega,rfl,?_,by omega,rfl⟩,(wk 2 0)⟩<;>first|omega|(rw[MD hy];simp[hc4];omega))
   have hc4:=bp hb4;refine BH (Ay (t_ (AX (m_ (h:=BB (h:=a_ (h:=AT (?_))))))));refine AG ?_
   first|(refine⟨_,_,?_,⟨i+1,c2+1,by omega,rfl,?_,by omega,rfl⟩,(wk 2 0)⟩<;>first|omega|(rw[MD hy];simp[hc4];omega))|(refine⟨_,_,?_,⟨i+1,c2,by omega,rfl,?_,by omega,rfl⟩,(wk 2 0)⟩<;>first|omega|(rw[MD hy];simp[hc4];omega))
  have hc3:=bp hb3;have e3:=D0 CA hi hc3;subst e3;refine Ba (Ao (Ao (Bb (Ay (t_ (AX (m_ (h:=BB (h:=a_ (h:=AT (?_)))))))))));refine AG ?_;refine⟨_,_,?_,⟨j+1,c2,by omega,rfl,?_,?_,rfl⟩,(wk 2 0)⟩
  ·omega
  ·rw[hc2n,VH hx,List.take_length];omega
  have:=VG a.2 (x.entries.take x.entries.length);simp at this;omega
 have hc2:=bp hb2;have e2:=D0 AW hj hc2;subst e2;refine Ba (Ao (Ao (Bb (t_ (w_ (m_ (h:=a_ (h:=e_ (A4 (?_))))))))));refine AD ?_;exact vi (by rw[VM g1 g2 g6,hcn,List.take_length])
end
def Cu(m:DE):List AV:=[.v (.int .i64 m.1), .v (.int .i64 m.2.1), .v (.int .i64 m.2.2)]
def As(s:Spc):List AV:=[.sl 2 (s.files.map Bp) none, .sl 3 (s.mounts.map Cu) none]
structure SpcB(s:Spc):Prop where
 files:FlsB s.files
 few:s.mounts.length≤1000
def Bk(s:Spc)(dev:Int):Option A6:=(s.mounts.find? fun m:DE=>decide (m.1=dev)).map (·.2)
def Bv(s:Spc)(a:A6):Option Int:=(s.mounts.find? fun m:DE=>decide (m.2=a)).map (·.1)
def Bz(s:Spc)(dev:Int):Bool:=(Bk s dev).isSome||decide (dev=0)
section
theorem Qm(op:BinOp)(a b c d:Int)(w:World):(op= .eql∨op= .neq)→(binOp op 33 (.agg #[.int .i64 a, .int .i64 b]) (.agg #[.int .i64 c, .int .i64 d])).run prog w= .ok (.bool (decide ((a,b)=(c,d))==decide (op= .eql))) w:=by
 have u3:=Tryz.underlying3;have a3:=Tryz.isAgg3;have z3:=Tryz.sizeOf3;have hS:prog.underlying 33=some (.struct (prog.fieldsOf 33)):=by kernel_rfl
 have hp:prog.stoodInHeld 33=false:=by kernel_rfl
 have e:∀w,(Op.equalIn 10000 33 (.agg #[.int .i64 a, .int .i64 b]) (.agg #[.int .i64 c, .int .i64 d])).run prog w= .ok (a==c&&b==d) w:=by
  intro w;rw[show(10000:Nat)=9999+1 from rfl,run_equalIn_agg w 9999 33 _ _ hS hp];simp only[Program.fieldsOf,Tryz.underlying33]
  go_simp
  by_cases h1:a=c<;>by_cases h2:b=d<;>simp[h1,h2]
 rintro(rfl|rfl)
 ·rw[run_eql_struct,e];by_cases h1:a=c<;>by_cases h2:b=d<;>simp[h1,h2]
 rw[run_neq_struct,e];by_cases h1:a=c<;>by_cases h2:b=d<;>simp[h1,h2]
theorem Je(a b c d:Int)(w:World):(binOp .eql 33 (.agg #[.int .i64 a, .int .i64 b]) (.agg #[.int .i64 c, .int .i64 d])).run prog w= .ok (.bool (decide ((a,b)=(c,d)))) w:=by
 rw[Qm .eql a b c d w (.inl rfl)];by_cases h:(a,b)=(c,d)<;>simp[h]
theorem Nu(a b c d:Int)(w:World):(binOp .neq 33 (.agg #[.int .i64 a, .int .i64 b]) (.agg #[.int .i64 c, .int .i64 d])).run prog w= .ok (.bool (!decide ((a,b)=(c,d)))) w:=by
 rw[Qm .neq a b c d w (.inr rfl)];by_cases h:(a,b)=(c,d)<;>simp[h]
theorem Nv(s:Spc)(dev:Int)(hs:SpcB s):AFn prog 68 [.agg (As s), .v (.int .i64 dev)] (fun r=>r= .tup [.agg (A7 ((Bk s dev).getD (0,0))), .v (.bool (Bk s dev).isSome)]):=by
 have hfew:=hs.few;refine enter Tryz.func68 rfl rfl rfl rfl rfl 0 rfl ?_;refine w_ (b_ (h:=Ak (h:=a_ (h:=e_ (q_ (w_ (a_ (h:=e_ (Ap (?_))))))))));refine By (fun m t=>∃j:Nat,j≤s.mounts.length∧m=s.mounts.length - j∧(∀i y,i<j→s.mounts[i]?=some y→decide (y.1=dev)=false)∧t=⟨look [(1, .v (.int .i64 dev)),(2, .bp 0 0),(4, .bp 1 0),(6, .v (.int .i64 (j:Int)))],⟨[As s,[.v (.int .i64 0), .v (.int .i64 0)]],[]⟩⟩) (s.mounts.length) ((wk 2 0)) (⟨0,by omega,rfl,fun i y hi=>by omega,rfl⟩) ?_;rintro m t ⟨j,hj,rfl,ha,rfl⟩;refine q_ (w_ (m_ (h:=f_ (h:=l_ (h:=n_ (h:=BQ (h:=e_ (?_))))))));refine AA rfl (fun hb1=>?_) (fun hb1=>?_)
 ·have hc1:=bp hb1;obtain⟨hlt,x,hy,hrow, -⟩:=Cp Cu hc1;refine AO (q_ (Ap (w_ (f_ (h:=l_ (h:=m_ (h:=i_ (h:=f_ (h:=l_ (h:=m_ (h:=Ah (h:=e_ (?_)))))))))))));refine AA rfl (fun hb2=>?_) (fun hb2=>?_)
  ·have hc2:=bp hb2;refine w_ (f_ (h:=l_ (h:=m_ (h:=i_ (h:=f_ (h:=l_ (h:=s_ (h:=a_ (h:=e_ (A4 (Ab (A9 (A9 (Ab (A9 (?_))))))))))))))));refine AD ?_;rw[show Bk s dev=some x.2 by simp only[Bk];rw[G0 hy (by simpa using hc2) ha];rfl];rfl
  have hc2:=bp hb2;refine BH (Ay (t_ (AX (m_ (h:=BB (h:=a_ (h:=AT (?_))))))));refine AG ?_;refine⟨_,_,?_,⟨j+1,by omega,rfl,Eb hy ha (by simpa using hc2),rfl⟩,(wk 2 0)⟩;omega
 have hc1:=bp hb1;have e3:=D0 Cu hj hc1;subst e3;refine Ba (Ao (Ao (Bb (t_ (w_ (Aa (h:=s_ (h:=a_ (h:=e_ (A4 (?_)))))))))));refine AD ?_;rw[show Bk s dev=none by simp only[Bk];rw[G4 ha];rfl];rfl
theorem VR(s:Spc)(dev:Int)(hs:SpcB s):AFn prog 42 [.agg (As s), .v (.int .i64 dev)] (fun r=>r= .v (.bool (Bz s dev))):=by
 refine enter Tryz.func42 rfl rfl rfl rfl rfl 0 rfl ?_;refine w_ (b_ (h:=a_ (h:=e_ (w_ (l_ (h:=m_ (h:=?_)))))));refine A8 rfl (AN (Nv s dev hs) ?_);rintro r rfl;refine m_ (h:=x_ (h:=x_ (h:=Ak (h:=s_ (h:=a_ (h:=e_ (w_ (m_ (h:=m_ (h:=?_))))))))));refine Aw false rfl rfl (fun hb1=>?_) (fun hb1=>?_)
 ·have hc1:=bp hb1;refine A3 (h:=A3 (h:=AY (h:=a_ (h:=e_ (A4 (?_))))));refine AD ?_;exact vb (by unfold Bz;rw[hc1];simp)
 have hc1:=bp hb1;refine m_ (h:=Ah (h:=Aj (h:=a_ (h:=e_ (A4 (?_))))));refine AD ?_;exact vb (by unfold Bz;rw[hc1];simp)
theorem Qn(s:Spc)(a:A6)(hs:SpcB s):AFn prog 69 [.agg (As s), .agg (A7 a)] (fun r=>r= .tup [.v (.int .i64 ((Bv s a).getD 0)), .v (.bool (Bv s a).isSome)]):=by
 have hfew:=hs.few;refine enter Tryz.func69 rfl rfl rfl rfl rfl 0 rfl ?_;refine w_ (b_ (h:=b_ (h:=a_ (h:=a_ (h:=e_ (q_ (w_ (a_ (h:=e_ (Ap (?_)))))))))));refine By (fun m t=>∃j:Nat,j≤s.mounts.length∧m=s.mounts.length - j∧(∀i y,i<j→s.mounts[i]?=some y→decide (y.2=a)=false)∧t=⟨look [(2, .bp 0 0),(3, .bp 1 0),(6, .v (.int .i64 (j:Int)))],⟨[As s,A7 a],[]⟩⟩) (s.mounts.length) ((wk 2 0)) (⟨0,by omega,rfl,fun i y hi=>by omega,rfl⟩) ?_;rintro m t ⟨j,hj,rfl,ha,rfl⟩;refine q_ (w_ (m_ (h:=f_ (h:=l_ (h:=n_ (h:=BQ (h:=e_ (?_))))))));refine AA rfl (fun hb1=>?_) (fun hb1=>?_)
 ·have hc1:=bp hb1;obtain⟨hlt,x,hy,hrow, -⟩:=Cp Cu hc1;refine AO (q_ (Ap (q_ (Dp 8 (h:=AJ 0 (h:=AF 1 (h:=AQ 2 (h:=DD 3 (h:=AJ 4 (h:=AF 5 (h:=AF 6 (h:=?_))))))))))));refine F3 (i:=7) rfl (EQ rfl rfl (by repeat constructor) (by repeat constructor) (fun w=>Je _ _ _ _ w) (by kernel_rfl) ⟨rfl,rfl⟩) ?_;refine z_ (h:=t_ (?_));refine AA rfl (fun hb2=>?_) (fun hb2=>?_)
  ·have hc2:=bp hb2;refine w_ (f_ (h:=l_ (h:=m_ (h:=i_ (h:=f_ (h:=l_ (h:=a_ (h:=a_ (h:=e_ (A4 (Ab (A9 (A9 (Ab (A9 (?_))))))))))))))));refine AD ?_;rw[show Bv s a=some x.1 by simp only[Bv];rw[G0 hy (decide_eq_true hc2) ha];rfl];rfl
  have hc2:=bp hb2;refine BH (Ay (t_ (AX (m_ (h:=BB (h:=a_ (h:=AT (?_))))))));refine AG ?_;refine⟨_,_,?_,⟨j+1,by omega,rfl,Eb hy ha (decide_eq_false hc2),rfl⟩,(wk 2 0)⟩;omega
 have hc1:=bp hb1;have e3:=D0 Cu hj hc1;subst e3;refine Ba (Ao (Ao (Bb (t_ (w_ (a_ (h:=a_ (h:=e_ (A4 (?_))))))))));refine AD ?_;rw[show Bv s a=none by simp only[Bv];rw[G4 ha];rfl];rfl
theorem VS(s:Spc)(a:A6)(hs:SpcB s):AFn prog 43 [.agg (As s), .agg (A7 a)] (fun r=>r= .v (.bool (Bv s a).isSome)):=by
 refine enter Tryz.func43 rfl rfl rfl rfl rfl 0 rfl ?_;refine w_ (b_ (h:=b_ (h:=a_ (h:=e_ (w_ (l_ (h:=l_ (h:=?_))))))));refine A8 rfl (AN (Qn s a hs) ?_);rintro r rfl;refine m_ (h:=x_ (h:=x_ (h:=a_ (h:=a_ (h:=e_ (w_ (m_ (h:=a_ (h:=e_ (A4 (?_)))))))))));refine AD ?_;rfl
theorem Nx(s:Spc)(dev:Int)(hs:SpcB s):AFn prog 110 [.agg (As s), .v (.int .i64 dev)] (fun r=>r= .tup [.agg (A7 ((Bk s dev).getD (0,0))), .v (.bool (Bk s dev).isSome)]):=by
 have hfew:=hs.few;refine enter Tryz.func110 rfl rfl rfl rfl rfl 0 rfl ?_;refine w_ (b_ (h:=Ak (h:=a_ (h:=e_ (q_ (w_ (f_ (h:=l_ (h:=n_ (h:=m_ (h:=e_ (Ap (?_)))))))))))));refine By (fun m t=>∃j:Nat,j≤s.mounts.length∧m=s.mounts.length - j∧(∀i y,i<j→s.mounts[i]?=some y→decide (y.1=dev)=false)∧t=⟨look [(1, .v (.int .i64 dev)),(4, .bp 1 0),(9, .sl 3 (s.mounts.map Cu) none),(10, .v (.int .i64 ((s.mounts.map Cu).length:Int))),(11, .v (.int .i64 (j:Int)))],⟨[As s,[.v (.int .i64 0), .v (.int .i64 0)]],[]⟩⟩) (s.mounts.length) ((wk 2 0)) (⟨0,by omega,rfl,fun i y hi=>by omega,rfl⟩) ?_;rintro m t ⟨j,hj,rfl,ha,rfl⟩;refine w_ (BQ (h:=e_ (q_ (?_))));refine AA rfl (fun hb1=>?_) (fun hb1=>?_)
 ·have hc1:=bp hb1;obtain⟨hlt,x,hy,hrow, -⟩:=Cp Cu hc1;refine AO (q_ (Ap (w_ (i_ (h:=l_ (h:=Ak (h:=s_ (h:=e_ (w_ (f_ (h:=l_ (h:=m_ (h:=Ah (h:=e_ (?_)))))))))))))));refine AA rfl (fun hb2=>?_) (fun hb2=>?_)
  ·have hc2:=bp hb2;refine w_ (f_ (h:=l_ (h:=s_ (h:=a_ (h:=e_ (A4 (Ab (A9 (A9 (Ab (A9 (?_))))))))))));refine AD ?_;rw[show Bk s dev=some x.2 by simp only[Bk];rw[G0 hy (by simpa using hc2) ha];rfl];rfl
  have hc2:=bp hb2;refine BH (Ay (t_ (AX (BB (h:=m_ (h:=AT (?_)))))));refine AG ?_;refine⟨_,_,?_,⟨j+1,by omega,rfl,Eb hy ha (by simpa using hc2),rfl⟩,(wk 2 0)⟩;omega
 have hc1:=bp hb1;have e3:=D0 Cu hj hc1;subst e3;refine Ba (Ao (Ao (Bb (t_ (w_ (Aa (h:=s_ (h:=a_ (h:=e_ (A4 (?_)))))))))));refine AD ?_;rw[show Bk s dev=none by simp only[Bk];rw[G4 ha];rfl];rfl
theorem Qo(s:Spc)(dev:Int)(hs:SpcB s):AFn prog 70 [.agg (As s), .v (.int .i64 dev)] (fun r=>r= .v (.bool (Bz s dev))):=by
 refine enter Tryz.func70 rfl rfl rfl rfl rfl 0 rfl ?_;refine w_ (b_ (h:=a_ (h:=e_ (q_ (w_ (m_ (h:=Ah (h:=e_ (?_)))))))));refine AA rfl (fun hb1=>?_) (fun hb1=>?_)
 ·have hc1:=bp hb1;refine w_ (a_ (h:=e_ (A4 (A9 (?_)))));refine AD ?_;exact vb (by unfold Bz;simp[hc1])
 have hc1:=bp hb1;refine AO (w_ (l_ (h:=m_ (h:=?_))));refine A8 rfl (AN (Nx s dev hs) ?_);rintro r rfl;refine m_ (h:=x_ (h:=x_ (h:=Ak (h:=s_ (h:=a_ (h:=e_ (w_ (m_ (h:=a_ (h:=e_ (A4 (?_))))))))))));refine AD ?_;exact vb (by unfold Bz;simp[hc1])
theorem VT(s:Spc)(a:A6)(hs:SpcB s):AFn prog 160 [.agg (As s), .agg (A7 a)] (fun r=>r= .tup [.v (.int .i64 ((Bv s a).getD 0)), .v (.bool (Bv s a).isSome)]):=by
 have hfew:=hs.few;refine enter Tryz.func160 rfl rfl rfl rfl rfl 0 rfl ?_;refine w_ (b_ (h:=b_ (h:=a_ (h:=a_ (h:=e_ (q_ (w_ (f_ (h:=l_ (h:=n_ (h:=m_ (h:=e_ (Ap (?_))))))))))))));refine By (fun m t=>∃j:Nat,j≤s.mounts.length∧m=s.mounts.length - j∧(∀i y,i<j→s.mounts[i]?=some y→decide (y.2=a)=false)∧t=⟨look [(3, .bp 1 0),(9, .sl 3 (s.mounts.map Cu) none),(10, .v (.int .i64 ((s.mounts.map Cu).length:Int))),(11, .v (.int .i64 (j:Int)))],⟨[As s,A7 a],[]⟩⟩) (s.mounts.length) ((wk 2 0)) (⟨0,by omega,rfl,fun i y hi=>by omega,rfl⟩) ?_;rintro m t ⟨j,hj,rfl,ha,rfl⟩;refine w_ (BQ (h:=e_ (q_ (?_))));refine AA rfl (fun hb1=>?_) (fun hb1=>?_)
 ·have hc1:=bp hb1;obtain⟨hlt,x,hy,hrow, -⟩:=Cp Cu hc1;refine AO (q_ (Ap (w_ (i_ (h:=l_ (h:=Ak (h:=s_ (h:=e_ (w_ (f_ (h:=l_ (h:=l_ (h:=?_)))))))))))));refine A8 rfl (EQ rfl rfl (by repeat constructor) (by repeat constructor) (fun w=>Je _ _ _ _ w) (by kernel_rfl) ?_);refine e_ (?_);refine AA rfl (fun hb2=>?_) (fun hb2=>?_)
  ·have hc2:=bp hb2;refine w_ (f_ (h:=l_ (h:=a_ (h:=a_ (h:=e_ (A4 (Ab (A9 (A9 (Ab (A9 (?_))))))))))));refine AD ?_;rw[show Bv s a=some x.1 by simp only[Bv];rw[G0 hy (decide_eq_true hc2) ha];rfl];rfl
  have hc2:=bp hb2;refine BH (Ay (t_ (AX (BB (h:=m_ (h:=AT (?_)))))));refine AG ?_;refine⟨_,_,?_,⟨j+1,by omega,rfl,Eb hy ha (decide_eq_false hc2),rfl⟩,(wk 2 0)⟩;omega
 have hc1:=bp hb1;have e3:=D0 Cu hj hc1;subst e3;refine Ba (Ao (Ao (Bb (t_ (w_ (a_ (h:=a_ (h:=e_ (A4 (?_))))))))));refine AD ?_;rw[show Bv s a=none by simp only[Bv];rw[G4 ha];rfl];rfl
end
end Go.Proofs.YtobclmbkdhbnpaaGreatDoor
