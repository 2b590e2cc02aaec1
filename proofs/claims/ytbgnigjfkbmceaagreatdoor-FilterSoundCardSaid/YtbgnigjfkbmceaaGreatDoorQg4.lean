/-
  Part 4 of the proof of FilterSoundP: what the statement's proof uses of the texts in wip/tpl.
-/
import Derived.WalkKit
import Derived.Test.YtbgnigjfkbmceaaGreatDoorQg3
open Go.Proofs.Tryz (prog)
set_option maxRecDepth 10000
set_option maxHeartbeats 4000000
set_option linter.unusedVariables false
set_option linter.unusedSimpArgs false
namespace Go.Proofs.YtbgnigjfkbmceaaGreatDoor
open Go.RowKit
section
variable {P:Program}{N:Dim}{Q:Exit→AS→Prop}{s:AS}
def AC(P:Program)(N:Dim)(y:Code)(Q:Exit→AS→Prop)(s:AS):Prop:=BU P N y Q s
theorem q_{x y:Code}(h:BU P N x (GH (AC P N y Q) Q) s):BU P N (.seq x y) Q s:=by
 intro E a w hr;refine wp_seq (wp_mono (h E a w hr) ?_);rintro e a' w' ⟨s',hq,hr'⟩
 cases e with
 |normal=>exact hq E a' w' hr'
 |exit id=>exact⟨s',hq,hr'⟩
 |goto l=>exact⟨s',hq,hr'⟩
 |ret=>exact⟨s',hq,hr'⟩
 |panic c=>exact⟨s',hq,hr'⟩
 |outgrown=>exact⟨s',hq,hr'⟩
theorem w_{id:Nat}{l:List Oper}{y:Code}(h:AL P N l.toArray (GH (AC P N y Q) Q) l s):BU P N (.seq (.region id l.toArray false) y) Q s:=q_ (B2 h)
theorem t_{y:Code}(h:BU P N y Q s):GH (AC P N y Q) Q .normal s:=h
theorem e_{ops:Array Oper}{y:Code}(h:BU P N y Q s):AL P N ops (GH (AC P N y Q) Q) [] s:=CP h
theorem AK{y:Code}(h:BU P N y Q s):BU P N .skip (GH (AC P N y Q) Q) s:=As h
theorem Cz{c:Operand}{x y:Code}{t:Bool}(hc:Bp s.sl c=some (.v (.bool t)):=by rfl)(ht:t=true:=by first|rfl|assumption|simp[*])(h:BU P N x Q s):BU P N (.cond c x y) Q s:=Ws hc ht h
theorem KP{c:Operand}{x y:Code}{t:Bool}(hc:Bp s.sl c=some (.v (.bool t)):=by rfl)(ht:t=false:=by first|rfl|assumption|simp[*])(h:BU P N y Q s):BU P N (.cond c x y) Q s:=Wt hc ht h
end
section
variable {P:Program}{N:Dim}{Q:Exit→AS→Prop}{ops:Array Oper}{rest:List Oper}{l:List (Nat×AV)}{hh:AH}{op:Op}{ty:TypeId}{pos:String}{af:Array Edge}
theorem Cp{d j:Nat}{want t:Bool}(hd:Nat.blt d N.n=true:=by rfl)(hy:yv ops (look l) j=some (some t):=by rfl)(ht:(t==want)=false:=by first|rfl|exact SD ‹_›|exact SE ‹_›|simp[*])(h:AL P N ops Q rest ⟨look ((d, .v undef)::l),hh⟩):AL P N ops Q (⟨some d,op,ty,pos,af,some (j,want)⟩::rest) ⟨look l,hh⟩:=Wu hd hy ht h
theorem Jk{d j:Nat}{want:Bool}(hd:Nat.blt d N.n=true:=by rfl)(hy:yv ops (look l) j=some none:=by rfl)(h:AL P N ops Q rest ⟨look ((d, .v undef)::l),hh⟩):AL P N ops Q (⟨some d,op,ty,pos,af,some (j,want)⟩::rest) ⟨look l,hh⟩:=Wv hd hy h
end
def KB:List (Nat×List AV)→AH→Prop
 |[],_=>True
 |(i,r)::l,h=>h.bx[i]?=some r∧KB l h
def Pp:List (Nat×List AV)→Nat→Option (List AV)
 |[],_=>none
 |(i,r)::l,j=>match Nat.beq i j with
   |true=>some r
   |false=>Pp l j
theorem kb:∀{l:List (Nat×List AV)} {h:AH} {i:Nat} {row:List AV},KB l h→Pp l i=some row→h.bx[i]?=some row
 |[],_,_,_,_,e=>by cases e
 |(j,r)::l,h,i,row,k,e=>by
   unfold Pp at e;split at e
   ·rename_i hb;have:=Nat.eq_of_beq_eq_true hb;subst this;injection e with e;subst e;exact k.1
   exact kb k.2 e
theorem L7(h:AH):KB [] h:=trivial
theorem L8{l:List (Nat×List AV)}{h:AH}{i:Nat}{r:List AV}(h1:h.bx[i]?=some r)(h2:KB l h):KB ((i,r)::l) h:=⟨h1,h2⟩
def Do(_i:Nat)(B A:Prop):Prop:=B→A
section
variable {P:Program}{N:Dim}{l:List Oper}{Q:Exit→AS→Prop}{S:AH→Prop}{tl fuel:Nat}{listed:Array Bool}{m:List (Nat×AV)}{hh:AH}{op:Op}{ty:TypeId}{pos:String}{af:Array Edge}{gd:Option (Nat×Bool)}
theorem CE{i d:Nat}{x:AV}(hi:l[i]?=some ⟨some d,op,ty,pos,af,gd⟩)(hst:AStep P ⟨some d,op,ty,pos,af,gd⟩ (Bp (look m)) hh (fun x' h'=>x'=x∧h'=hh))(hd:Nat.blt d N.n=true:=by rfl)(htl:(Hj l.toArray tl listed&& !Nat.ble tl i&&Region.free .any l.toArray listed i&&(Region.ready .any l.toArray listed).contains i)=true:=by kernel_rfl)
    (hw:By l.toArray (look m) ⟨some d,op,ty,pos,af,gd⟩=some true:=by first|rfl|exact B3 rfl rfl (DK ‹_›)|exact B3 rfl rfl (DL ‹_›)|exact B3 rfl rfl (by simp[*])):
    Do i (AAny P N l.toArray Q (fun h'=>h'=hh) tl fuel (listed.setIfInBounds i true) ⟨look ((d,x)::m),hh⟩) (AAny P N l.toArray Q (fun h'=>h'=hh) tl (fuel+1) listed ⟨look m,hh⟩):=fun H=>Rm hi hd htl hw hst H
theorem CF{K:List (Nat×List AV)}{i d:Nat}{x:AV}(hi:l[i]?=some ⟨some d,op,ty,pos,af,gd⟩)(hst:∀h,KB K h→AStep P ⟨some d,op,ty,pos,af,gd⟩ (Bp (look m)) h (fun x' h'=>x'=x∧h'=h))(hd:Nat.blt d N.n=true:=by rfl)(htl:(Hj l.toArray tl listed&& !Nat.ble tl i&&Region.free .any l.toArray listed i&&(Region.ready .any l.toArray listed).contains i)=true:=by kernel_rfl)
    (hw:By l.toArray (look m) ⟨some d,op,ty,pos,af,gd⟩=some true:=by first|rfl|exact B3 rfl rfl (DK ‹_›)|exact B3 rfl rfl (DL ‹_›)|exact B3 rfl rfl (by simp[*])) (hS:KB K hh:=by repeat (first|exact L7 _|refine L8 rfl ?_)):
    Do i (AAny P N l.toArray Q (KB K) tl fuel (listed.setIfInBounds i true) ⟨look ((d,x)::m),hh⟩) (AAny P N l.toArray Q (KB K) tl (fuel+1) listed ⟨look m,hh⟩):=fun H=>Ez hi hd htl hw hst hS H
theorem BT{K:List (Nat×List AV)}(i:Nat){d:Nat}{x:AV}(hi:l[i]?=some ⟨some d,op,ty,pos,af,gd⟩)(hst:∀h,KB K h→AStep P ⟨some d,op,ty,pos,af,gd⟩ (Bp (look m)) h (fun x' h'=>x'=x∧h'=h))(H:AAny P N l.toArray Q (KB K) tl fuel (listed.setIfInBounds i true) ⟨look ((d,x)::m),hh⟩)(hd:Nat.blt d N.n=true:=by rfl)(htl:(Hj l.toArray tl listed&& !Nat.ble tl i&&Region.free .any l.toArray listed i&&(Region.ready .any l.toArray listed).contains i)=true:=by kernel_rfl)
    (hw:By l.toArray (look m) ⟨some d,op,ty,pos,af,gd⟩=some true:=by first|rfl|exact B3 rfl rfl (DK ‹_›)|exact B3 rfl rfl (DL ‹_›)|exact B3 rfl rfl (by simp[*])) (hS:KB K hh:=by repeat (first|exact L7 _|refine L8 rfl ?_)):AAny P N l.toArray Q (KB K) tl (fuel+1) listed ⟨look m,hh⟩:=Ez hi hd htl hw hst hS H
theorem BH(i:Nat){d:Nat}(hi:l[i]?=some ⟨some d,op,ty,pos,af,gd⟩:=by rfl)(hd:Nat.blt d N.n=true:=by rfl)(htl:(Hj l.toArray tl listed&& !Nat.ble tl i&&Region.free .any l.toArray listed i&&(Region.ready .any l.toArray listed).contains i)=true:=by kernel_rfl)
    (hw:By l.toArray (look m) ⟨some d,op,ty,pos,af,gd⟩=some false:=by first|rfl|exact PL rfl rfl (SD ‹_›)|exact PL rfl rfl (SE ‹_›)|exact Wa rfl rfl|exact PL rfl rfl (by simp[*]))
    (hS:S hh:=by first|rfl|(repeat (first|exact L7 _|refine L8 rfl ?_))) (h:AAny P N l.toArray Q S tl fuel (listed.setIfInBounds i true) ⟨look ((d, .v undef)::m),hh⟩):AAny P N l.toArray Q S tl (fuel+1) listed ⟨look m,hh⟩:=WV hi hd htl hw hS h
theorem c_(i:Nat){d:Nat}(hi:l[i]?=some ⟨some d,op,ty,pos,af,gd⟩)(H:AStep P ⟨some d,op,ty,pos,af,gd⟩ (Bp (look m)) hh (fun x h'=>(Nat.ble tl i=true∨S h')∧AAny P N l.toArray Q S tl fuel (listed.setIfInBounds i true) ⟨look ((d,x)::m),h'⟩))(hd:Nat.blt d N.n=true:=by rfl)(hr:Region.ready .any l.toArray listed=[i]:=by kernel_rfl)
    (hw:By l.toArray (look m) ⟨some d,op,ty,pos,af,gd⟩=some true:=by first|rfl|exact B3 rfl rfl (DK ‹_›)|exact B3 rfl rfl (DL ‹_›)|exact B3 rfl rfl (by simp[*])):AAny P N l.toArray Q S tl (fuel+1) listed ⟨look m,hh⟩:=WW hi hd hr hw H
theorem GN(i:Nat)(hi:l[i]?=some ⟨none,op,ty,pos,af,gd⟩)(H:AStep P ⟨none,op,ty,pos,af,gd⟩ (Bp (look m)) hh (fun _ h'=>(Nat.ble tl i=true∨S h')∧AAny P N l.toArray Q S tl fuel (listed.setIfInBounds i true) ⟨look m,h'⟩))(hr:Region.ready .any l.toArray listed=[i]:=by kernel_rfl)
    (hw:By l.toArray (look m) ⟨none,op,ty,pos,af,gd⟩=some true:=by first|rfl|exact B3 rfl rfl (DK ‹_›)|exact B3 rfl rfl (DL ‹_›)|exact B3 rfl rfl (by simp[*])):AAny P N l.toArray Q S tl (fuel+1) listed ⟨look m,hh⟩:=WX hi hr hw H
theorem KQ(i j:Nat){di dj:Nat}{op':Op}{ty':TypeId}{pos':String}{af':Array Edge}{gd':Option (Nat×Bool)}(hi:l[i]?=some ⟨some di,op,ty,pos,af,gd⟩)(hj:l[j]?=some ⟨some dj,op',ty',pos',af',gd'⟩)
    (H1:AStep P ⟨some di,op,ty,pos,af,gd⟩ (Bp (look m)) hh (fun x h'=>(Nat.ble tl i=true∨S h')∧AAny P N l.toArray Q S tl fuel (listed.setIfInBounds i true) ⟨look ((di,x)::m),h'⟩))
    (H2:AStep P ⟨some dj,op',ty',pos',af',gd'⟩ (Bp (look m)) hh (fun x h'=>(Nat.ble tl j=true∨S h')∧AAny P N l.toArray Q S tl fuel (listed.setIfInBounds j true) ⟨look ((dj,x)::m),h'⟩))
    (hdi:Nat.blt di N.n=true:=by rfl) (hdj:Nat.blt dj N.n=true:=by rfl) (hr:Region.ready .any l.toArray listed=[i,j]:=by kernel_rfl)
    (hwi:By l.toArray (look m) ⟨some di,op,ty,pos,af,gd⟩=some true:=by first|rfl|exact B3 rfl rfl (DK ‹_›)|exact B3 rfl rfl (DL ‹_›)|exact B3 rfl rfl (by simp[*]))
    (hwj:By l.toArray (look m) ⟨some dj,op',ty',pos',af',gd'⟩=some true:=by first|rfl|exact B3 rfl rfl (DK ‹_›)|exact B3 rfl rfl (DL ‹_›)|exact B3 rfl rfl (by simp[*])):AAny P N l.toArray Q S tl (fuel+1) listed ⟨look m,hh⟩:=XH hr hi hdi hwi hj hdj hwj H1 H2
theorem o_{i:Nat}{A:Prop}{h':AH}(hS:Nat.ble tl i=true∨S h':=by first|exact .inl rfl|exact .inr rfl|exact .inr (by repeat (first|exact L7 _|refine L8 rfl ?_)))(h:A):(Nat.ble tl i=true∨S h')∧A:=⟨hS,h⟩
theorem z_(hr:Region.ready .any l.toArray listed=[]:=by kernel_rfl)(h:Q .normal ⟨look m,hh⟩):AAny P N l.toArray Q S tl fuel listed ⟨look m,hh⟩:=WZ hr h fuel
theorem E4(tl:Nat){id:Nat}(hm:P.follows .mixedOrders=true:=by kernel_rfl)(h:AAny P N l.toArray Q (fun h'=>h'=hh) tl l.length (Array.replicate l.length false) ⟨look m,hh⟩):BU P N (.region id l.toArray true) Q ⟨look m,hh⟩:=WY tl hm h
theorem Bz(K:List (Nat×List AV))(tl:Nat){id:Nat}(hm:P.follows .mixedOrders=true:=by kernel_rfl)(h:AAny P N l.toArray Q (KB K) tl l.length (Array.replicate l.length false) ⟨look m,hh⟩):BU P N (.region id l.toArray true) Q ⟨look m,hh⟩:=N0 _ tl hm h
end
section
variable {P:Program}{rs:List ResultVar}{n:Nat}{R:AV→List (List AV)→List Bv→Prop}{s:AS}{xs:List AV}{r:AV}
theorem Ag(g:Option Nat){tk':List Bv}(h1:ResA P s rs xs:=by repeat (first|exact ResA.nil|(apply ResA.tmp;(focus exact rfl))|(apply ResA.cellN;(focus exact inferInstance);(focus exact rfl);(focus exact rfl);(focus exact rfl))|(apply ResA.cell1;(focus exact inferInstance);(focus exact rfl);(focus exact rfl);(focus exact rfl))))(h2:Jf s.h.tk g=some tk':=by rfl)(h3:Aw n 1 (D3 g (ES xs))=true:=by rfl)(h4:B4 n 0 (s.h.bx.take n)=true:=by rfl)(h5:LeA (D3 g (ES xs)) r)(h6:R r (s.h.bx.take n) tk'):Jg P rs n R .ret s:=Na g h1 h2 h3 h4 h5 h6
theorem Pq(g:Option Nat){tk':List Bv}(h1:ResA P s rs xs:=by repeat (first|exact ResA.nil|(apply ResA.tmp;(focus exact rfl))|(apply ResA.cellN;(focus exact inferInstance);(focus exact rfl);(focus exact rfl);(focus exact rfl))|(apply ResA.cell1;(focus exact inferInstance);(focus exact rfl);(focus exact rfl);(focus exact rfl))))(h2:Jf s.h.tk g=some tk':=by rfl)(h3:Aw n 1 (D3 g (ES xs))=true:=by rfl)(h4:B4 n 0 (s.h.bx.take n)=true:=by rfl)(h5:LeA (D3 g (ES xs)) r)(h6:R r (s.h.bx.take n) tk'):Jg P rs n R .normal s:=Wn g h1 h2 h3 h4 h5 h6
end
theorem m_{A B:Prop}(k:B→A:=by intro b;first|exact A3 rfl (Hl rfl b)|exact Af (Hl rfl b))(h:B):A:=k h
theorem Ac(i:Nat){A B:Prop}(k:Do i B A:=by first|exact CE rfl (Hl rfl ⟨rfl,rfl⟩)|exact CF rfl (fun _ _=>Hl rfl ⟨rfl,rfl⟩))(h:B):A:=k h
theorem a_{A B:Prop}(k:B→A:=by intro b;first|exact A3 rfl (Jc rfl b)|exact Af (Jc rfl b))(h:B):A:=k h
theorem BM(i:Nat){A B:Prop}(k:Do i B A:=by first|exact CE rfl (Jc rfl ⟨rfl,rfl⟩)|exact CF rfl (fun _ _=>Jc rfl ⟨rfl,rfl⟩))(h:B):A:=k h
theorem f_{A B:Prop}(k:B→A:=by intro b;first|exact A3 rfl (FG rfl b)|exact A3 rfl (NA rfl b)|exact Af (FG rfl b)|exact Af (NA rfl b))(h:B):A:=k h
theorem Ar(i:Nat){A B:Prop}(k:Do i B A:=by first|exact CE rfl (FG rfl ⟨rfl,rfl⟩)|exact CE rfl (NA rfl ⟨rfl,rfl⟩)|exact CF rfl (fun _ _=>FG rfl ⟨rfl,rfl⟩)|exact CF rfl (fun _ _=>NA rfl ⟨rfl,rfl⟩))(h:B):A:=k h
theorem l_{A B:Prop}(k:B→A:=by intro b;first|exact A3 rfl (Cy rfl rfl rfl b)|exact A3 rfl (Kw rfl rfl rfl b)|exact A3 rfl (Ku rfl rfl b)|exact A3 rfl (NC rfl rfl b)|exact A3 rfl (Kv rfl rfl rfl b)|exact A3 rfl (M1 rfl rfl b)|exact Af (Cy rfl rfl rfl b)|exact Af (Kw rfl rfl rfl b)|exact Af (Ku rfl rfl b)|exact Af (NC rfl rfl b)|exact Af (Kv rfl rfl rfl b)|exact Af (M1 rfl rfl b))(h:B):A:=k h
theorem AD(i:Nat){A B:Prop}(k:Do i B A:=by first|exact CE rfl (Cy rfl rfl rfl ⟨rfl,rfl⟩)|exact CE rfl (Kw rfl rfl rfl ⟨rfl,rfl⟩)|exact CE rfl (Ku rfl rfl ⟨rfl,rfl⟩)|exact CE rfl (NC rfl rfl ⟨rfl,rfl⟩)|exact CE rfl (Kv rfl rfl rfl ⟨rfl,rfl⟩)|exact CE rfl (M1 rfl rfl ⟨rfl,rfl⟩)|exact CF rfl (fun _ hS=>Cy rfl (kb hS rfl) rfl ⟨rfl,rfl⟩)|exact CF rfl (fun _ hS=>Kw rfl (kb hS rfl) rfl ⟨rfl,rfl⟩)|exact CF rfl (fun _ _=>Ku rfl rfl ⟨rfl,rfl⟩)|exact CF rfl (fun _ _=>NC rfl rfl ⟨rfl,rfl⟩)|exact CF rfl (fun _ hS=>Kv rfl (kb hS rfl) rfl ⟨rfl,rfl⟩)|exact CF rfl (fun _ _=>M1 rfl rfl ⟨rfl,rfl⟩))(h:B):A:=k h
theorem s_{A B:Prop}(k:B→A:=by intro b;exact Ng (F1 rfl rfl rfl rfl rfl rfl (by repeat constructor) (by repeat constructor) b))(h:B):A:=k h
theorem b_{A B:Prop}(k:B→A:=by intro b;first|exact A3 rfl (SG rfl rfl (by repeat constructor) b)|exact A3 rfl (SF rfl rfl (by repeat constructor) b)|exact Af (SG rfl rfl (by repeat constructor) b)|exact Af (SF rfl rfl (by repeat constructor) b))(h:B):A:=k h
theorem D4{A B:Prop}(k:B→A:=by intro b;first|exact A3 rfl (Gm (by repeat constructor) b)|exact Af (Gm (by repeat constructor) b))(h:B):A:=k h
theorem n_{A B:Prop}(k:B→A:=by intro b;first|exact A3 rfl (NV rfl b)|exact A3 rfl (NU (by kernel_rfl) rfl b)|exact A3 rfl (NW rfl b)|exact Af (NV rfl b)|exact Af (NU (by kernel_rfl) rfl b)|exact Af (NW rfl b))(h:B):A:=k h
theorem KR(i:Nat){A B:Prop}(k:Do i B A:=by first|exact CE rfl (NV rfl ⟨rfl,rfl⟩)|exact CE rfl (NU (by kernel_rfl) rfl ⟨rfl,rfl⟩)|exact CE rfl (NW rfl ⟨rfl,rfl⟩)|exact CF rfl (fun _ _=>NV rfl ⟨rfl,rfl⟩)|exact CF rfl (fun _ _=>NU (by kernel_rfl) rfl ⟨rfl,rfl⟩)|exact CF rfl (fun _ _=>NW rfl ⟨rfl,rfl⟩))(h:B):A:=k h
theorem Fh{A B:Prop}(k:B→A:=by intro b;first|exact A3 rfl (FJ rfl rfl rfl (by simp<;>omega) (by repeat constructor) b)|exact A3 rfl (GJ rfl rfl (by simp<;>omega) (by repeat constructor) b)|exact Af (FJ rfl rfl rfl (by simp<;>omega) (by repeat constructor) b)|exact Af (GJ rfl rfl (by simp<;>omega) (by repeat constructor) b))(h:B):A:=k h
theorem x_{A B:Prop}(k:B→A:=by intro b;first|exact A3 rfl (N7 rfl rfl b)|exact Af (N7 rfl rfl b))(h:B):A:=k h
theorem D5(i:Nat){A B:Prop}(k:Do i B A:=by first|exact CE rfl (N7 rfl rfl ⟨rfl,rfl⟩)|exact CF rfl (fun _ _=>N7 rfl rfl ⟨rfl,rfl⟩))(h:B):A:=k h
theorem k_{A B:Prop}(k:B→A:=by intro b;first|exact A3 rfl (N8 rfl b)|exact A3 rfl (N9 rfl b)|exact Af (N8 rfl b)|exact Af (N9 rfl b))(h:B):A:=k h
theorem O0(i:Nat){A B:Prop}(k:Do i B A:=by first|exact CE rfl (N8 rfl ⟨rfl,rfl⟩)|exact CE rfl (N9 rfl ⟨rfl,rfl⟩)|exact CF rfl (fun _ _=>N8 rfl ⟨rfl,rfl⟩)|exact CF rfl (fun _ _=>N9 rfl ⟨rfl,rfl⟩))(h:B):A:=k h
theorem Ck{A B:Prop}(k:B→A:=by intro b;first|exact A3 rfl (M5 (by repeat (first|exact FillA.nil _|(apply FillA.cons;(focus exact rfl);(focus exact rfl);(focus exact rfl);(focus exact rfl);(focus exact rfl);(focus (repeat constructor))))) b)|exact Af (M5 (by repeat (first|exact FillA.nil _|(apply FillA.cons;(focus exact rfl);(focus exact rfl);(focus exact rfl);(focus exact rfl);(focus exact rfl);(focus (repeat constructor))))) b))(h:B):A:=k h
theorem Hq(i:Nat){A B:Prop}(k:Do i B A:=by first|exact CE rfl (M5 (by repeat (first|exact FillA.nil _|(apply FillA.cons;(focus exact rfl);(focus exact rfl);(focus exact rfl);(focus exact rfl);(focus exact rfl);(focus (repeat constructor))))) ⟨rfl,rfl⟩)|exact CF rfl (fun _ _=>M5 (by repeat (first|exact FillA.nil _|(apply FillA.cons;(focus exact rfl);(focus exact rfl);(focus exact rfl);(focus exact rfl);(focus exact rfl);(focus (repeat constructor))))) ⟨rfl,rfl⟩))(h:B):A:=k h
theorem Cd{A B:Prop}(k:B→A:=by intro b;first|exact A3 rfl (M6 (by repeat (first|exact DenseA.nil _|(apply DenseA.cons;(focus exact rfl);(focus exact rfl);(focus exact rfl);(focus exact rfl))|(apply DenseA.consE;(focus exact rfl);(focus exact rfl);(focus exact rfl)))) rfl rfl rfl rfl b)|exact Af (M6 (by repeat (first|exact DenseA.nil _|(apply DenseA.cons;(focus exact rfl);(focus exact rfl);(focus exact rfl);(focus exact rfl))|(apply DenseA.consE;(focus exact rfl);(focus exact rfl);(focus exact rfl)))) rfl rfl rfl rfl b))(h:B):A:=k h
theorem L9(i:Nat){A B:Prop}(k:Do i B A:=by first|exact CE rfl (M6 (by repeat (first|exact DenseA.nil _|(apply DenseA.cons;(focus exact rfl);(focus exact rfl);(focus exact rfl);(focus exact rfl))|(apply DenseA.consE;(focus exact rfl);(focus exact rfl);(focus exact rfl)))) rfl rfl rfl rfl ⟨rfl,rfl⟩)|exact CF rfl (fun _ _=>M6 (by repeat (first|exact DenseA.nil _|(apply DenseA.cons;(focus exact rfl);(focus exact rfl);(focus exact rfl);(focus exact rfl))|(apply DenseA.consE;(focus exact rfl);(focus exact rfl);(focus exact rfl)))) rfl rfl rfl rfl ⟨rfl,rfl⟩))(h:B):A:=k h
theorem Bc{A B:Prop}(k:B→A:=by intro b;first|exact A3 rfl (Nr b)|exact Af (Nr b))(h:B):A:=k h
theorem Fi(i:Nat){A B:Prop}(k:Do i B A:=by first|exact CE rfl (Nr ⟨rfl,rfl⟩)|exact CF rfl (fun _ _=>Nr ⟨rfl,rfl⟩))(h:B):A:=k h
theorem C0{A B:Prop}(k:B→A:=by intro b;first|exact A3 rfl (Ns b)|exact Af (Ns b))(h:B):A:=k h
theorem JJ(i:Nat){A B:Prop}(k:Do i B A:=by first|exact CE rfl (Ns ⟨rfl,rfl⟩)|exact CF rfl (fun _ _=>Ns ⟨rfl,rfl⟩))(h:B):A:=k h
theorem Pr{A B:Prop}(k:B→A:=by intro b;first|exact A3 rfl (Rn rfl b)|exact Af (Rn rfl b))(h:B):A:=k h
theorem i_{A B:Prop}(k:B→A:=by intro b;first|exact A3 rfl (EF rfl rfl rfl (by first|assumption|rfl) b)|exact Af (EF rfl rfl rfl (by first|assumption|rfl) b))(h:B):A:=k h
theorem FK(i:Nat){A B:Prop}(k:Do i B A:=by first|exact CE rfl (EF rfl rfl rfl (by first|assumption|rfl) ⟨rfl,rfl⟩)|exact CF rfl (fun _ _=>EF rfl rfl rfl (by first|assumption|rfl) ⟨rfl,rfl⟩))(h:B):A:=k h
theorem XJ{A B:Prop}(k:B→A:=by intro b;first|exact A3 rfl (Pb rfl rfl (by omega) (by repeat constructor) b)|exact Af (Pb rfl rfl (by omega) (by repeat constructor) b))(h:B):A:=k h
theorem Dd{A B:Prop}(k:B→A:=by intro b;first|exact A3 rfl (NT rfl b)|exact Af (NT rfl b))(h:B):A:=k h
theorem XK(i:Nat){A B:Prop}(k:Do i B A:=by first|exact CE rfl (NT rfl ⟨rfl,rfl⟩)|exact CF rfl (fun _ _=>NT rfl ⟨rfl,rfl⟩))(h:B):A:=k h
theorem HA{A B:Prop}(k:B→A:=by intro b;first|exact A3 rfl (Kz rfl rfl (by omega) b)|exact A3 rfl (F0 rfl rfl (by omega) b)|exact A3 rfl (PT rfl rfl b)|exact Af (Kz rfl rfl (by omega) b)|exact Af (F0 rfl rfl (by omega) b)|exact Af (PT rfl rfl b))(h:B):A:=k h
theorem Hr{A B:Prop}(k:B→A:=by intro b;first|exact A3 rfl (KD rfl rfl (by omega) b)|exact A3 rfl (M4 rfl rfl b)|exact Af (KD rfl rfl (by omega) b)|exact Af (M4 rfl rfl b))(h:B):A:=k h
theorem Ps(i:Nat){A B:Prop}(k:Do i B A:=by first|exact CE rfl (KD rfl rfl (by omega) ⟨rfl,rfl⟩)|exact CE rfl (M4 rfl rfl ⟨rfl,rfl⟩)|exact CF rfl (fun _ _=>KD rfl rfl (by omega) ⟨rfl,rfl⟩)|exact CF rfl (fun _ _=>M4 rfl rfl ⟨rfl,rfl⟩))(h:B):A:=k h
theorem XL{A B:Prop}(k:B→A:=by intro b;first|exact A3 rfl (Rt rfl rfl b)|exact Af (Rt rfl rfl b))(h:B):A:=k h
theorem ET{A B:Prop}(k:B→A:=by intro b;first|exact A3 rfl (NH rfl rfl b)|exact A3 rfl (NO rfl rfl b)|exact A3 rfl (Nj (by kernel_rfl) rfl rfl b)|exact Af (NH rfl rfl b)|exact Af (NO rfl rfl b)|exact Af (Nj (by kernel_rfl) rfl rfl b))(h:B):A:=k h
theorem Fj(i:Nat){A B:Prop}(k:Do i B A:=by first|exact CE rfl (NH rfl rfl ⟨rfl,rfl⟩)|exact CE rfl (NO rfl rfl ⟨rfl,rfl⟩)|exact CE rfl (Nj (by kernel_rfl) rfl rfl ⟨rfl,rfl⟩)|exact CF rfl (fun _ _=>NH rfl rfl ⟨rfl,rfl⟩)|exact CF rfl (fun _ _=>NO rfl rfl ⟨rfl,rfl⟩)|exact CF rfl (fun _ _=>Nj (by kernel_rfl) rfl rfl ⟨rfl,rfl⟩))(h:B):A:=k h
theorem Gs{A B:Prop}(k:B→A:=by intro b;first|exact A3 rfl (NJ rfl rfl b)|exact A3 rfl (NP rfl rfl b)|exact A3 rfl (Nk (by kernel_rfl) rfl rfl b)|exact Af (NJ rfl rfl b)|exact Af (NP rfl rfl b)|exact Af (Nk (by kernel_rfl) rfl rfl b))(h:B):A:=k h
theorem O1(i:Nat){A B:Prop}(k:Do i B A:=by first|exact CE rfl (NJ rfl rfl ⟨rfl,rfl⟩)|exact CE rfl (NP rfl rfl ⟨rfl,rfl⟩)|exact CE rfl (Nk (by kernel_rfl) rfl rfl ⟨rfl,rfl⟩)|exact CF rfl (fun _ _=>NJ rfl rfl ⟨rfl,rfl⟩)|exact CF rfl (fun _ _=>NP rfl rfl ⟨rfl,rfl⟩)|exact CF rfl (fun _ _=>Nk (by kernel_rfl) rfl rfl ⟨rfl,rfl⟩))(h:B):A:=k h
theorem Hs{A B:Prop}(k:B→A:=by intro b;first|exact A3 rfl (NK rfl rfl b)|exact A3 rfl (NQ rfl rfl b)|exact Af (NK rfl rfl b)|exact Af (NQ rfl rfl b))(h:B):A:=k h
theorem XM(i:Nat){A B:Prop}(k:Do i B A:=by first|exact CE rfl (NK rfl rfl ⟨rfl,rfl⟩)|exact CE rfl (NQ rfl rfl ⟨rfl,rfl⟩)|exact CF rfl (fun _ _=>NK rfl rfl ⟨rfl,rfl⟩)|exact CF rfl (fun _ _=>NQ rfl rfl ⟨rfl,rfl⟩))(h:B):A:=k h
theorem FL{A B:Prop}(k:B→A:=by intro b;first|exact A3 rfl (NL rfl rfl b)|exact Af (NL rfl rfl b))(h:B):A:=k h
theorem XN(i:Nat){A B:Prop}(k:Do i B A:=by first|exact CE rfl (NL rfl rfl ⟨rfl,rfl⟩)|exact CF rfl (fun _ _=>NL rfl rfl ⟨rfl,rfl⟩))(h:B):A:=k h
theorem Fk{A B:Prop}(k:B→A:=by intro b;first|exact A3 rfl (NM rfl rfl b)|exact Af (NM rfl rfl b))(h:B):A:=k h
theorem Pt(i:Nat){A B:Prop}(k:Do i B A:=by first|exact CE rfl (NM rfl rfl ⟨rfl,rfl⟩)|exact CF rfl (fun _ _=>NM rfl rfl ⟨rfl,rfl⟩))(h:B):A:=k h
theorem E5{A B:Prop}(k:B→A:=by intro b;first|exact A3 rfl (NN rfl rfl b)|exact A3 rfl (NR rfl rfl b)|exact Af (NN rfl rfl b)|exact Af (NR rfl rfl b))(h:B):A:=k h
theorem Se(i:Nat){A B:Prop}(k:Do i B A:=by first|exact CE rfl (NN rfl rfl ⟨rfl,rfl⟩)|exact CE rfl (NR rfl rfl ⟨rfl,rfl⟩)|exact CF rfl (fun _ _=>NN rfl rfl ⟨rfl,rfl⟩)|exact CF rfl (fun _ _=>NR rfl rfl ⟨rfl,rfl⟩))(h:B):A:=k h
theorem O2{A B:Prop}(k:B→A:=by intro b;first|exact A3 rfl (SK rfl rfl b)|exact Af (SK rfl rfl b))(h:B):A:=k h
theorem at_{A B:Prop}(k:B→A:=by intro b;first|exact A3 rfl (SS rfl rfl b)|exact Af (SS rfl rfl b))(h:B):A:=k h
theorem XO{A B:Prop}(k:B→A:=by intro b;first|exact A3 rfl (SL rfl rfl b)|exact Af (SL rfl rfl b))(h:B):A:=k h
theorem Sf{A B:Prop}(k:B→A:=by intro b;first|exact A3 rfl (SM rfl rfl (by omega) b)|exact Af (SM rfl rfl (by omega) b))(h:B):A:=k h
theorem CK{f:Nat→Option AV}{bx:List (List AV)}{tk:List (Nat×Nat×List (List AV))}{l:List (Nat×AV)}{N:Dim}(n m:Nat){bx':List (List AV)}{tk':List (Nat×Nat×List (List AV))}(hbp:B4 n m bx'=true)(hn:Nat.ble N.ni n=true:=by rfl)(hb:bx.take n=bx':=by rfl)(ht:tk.take m=tk':=by rfl)(hl:Sub n m f l:=by repeat (first|exact Sub.nil|refine Sub.cons _ _ _ rfl rfl ?_|refine Sub.any _ _ ?_|refine Sub.sl _ _ _ _ _ rfl ?_|refine Sub.slnil _ _ _ rfl ?_)):Weak N ⟨f,⟨bx,tk⟩⟩ ⟨look l,⟨bx',tk'⟩⟩:=Aj n m hn hb ht hbp hl
theorem F5{P:Program}{ev:Operand→Option AV}{h:AH}{R:AV→AH→Prop}{d:Option Tmp}{ty:TypeId}{pos:String}{af:Array Edge}{gd:Option (Nat×Bool)}{T:TypeId}{l:List (Nat×Operand)}{pl:List (Nat×Nat)}{row cs:List AV}[hp:Plc P T pl][hz:Zer P T row](hR:R (.agg cs) h)(hf:FillA pl ev row l cs:=by repeat (first|exact FillA.nil _|(apply FillA.cons;(focus exact rfl);(focus exact rfl);(focus exact rfl);(focus exact rfl);(focus exact rfl);(focus (repeat constructor))))):AStep P ⟨d, .build T l.toArray,ty,pos,af,gd⟩ ev h R:=M5 hf hR
theorem Jl{P:Program}{ev:Operand→Option AV}{h:AH}{R:AV→AH→Prop}{o:Oper}{x y:AV}(hs:AStep P o ev h fun r h'=>r=x∧h'=h)(hR:R y h)(hl:LeA x y:=by repeat (first|exact A9 _|exact LeA.nil _|exact LeL.refl _|refine LeA.agg ?_|refine LeA.tup ?_|exact LeL.nil|refine LeL.cons ?_ ?_|exact LeA.any _)):AStep P o ev h R:=Hp hs hl hR
theorem A6{P:Program}{N:Dim}{Q:Exit→AS→Prop}{s:AS}{c:Operand}{x y:Code}{t:Bool}{p q:Prop}[BP t true p][BP t false q](hc:Bp s.sl c=some (.v (.bool t)))(ht:t=true→p→BU P N x Q s)(hf:t=false→q→BU P N y Q s):BU P N (.cond c x y) Q s:=PF hc (fun h=>ht h (bp h)) (fun h=>hf h (bp h))
theorem AF{P:Program}{N:Dim}{Q:Exit→AS→Prop}{ops:Array Oper}{rest:List Oper}{l:List (Nat×AV)}{hh:AH}{o:Oper}{j:Nat}{t:Bool}{p q:Prop}[BP t true p][BP t false q](want:Bool)(hg:o.guard=some (j,want))(hy:yv ops (look l) j=some (some t))(h1:t=true→p→AL P N ops Q (o::rest) ⟨look l,hh⟩)(h2:t=false→q→AL P N ops Q (o::rest) ⟨look l,hh⟩):AL P N ops Q (o::rest) ⟨look l,hh⟩:=Wx want hg hy (fun h=>h1 h (bp h)) (fun h=>h2 h (bp h))
theorem AY{n m i:Nat}{r:AV}{bx bx':List (List AV)}{xs:List (List AV)}{Z:List (List AV)→Prop}(h:Z bx')(h1:Aw n m r=true:=by rfl)(hs:SetAt bx i xs bx':=by repeat constructor):Aw n m r=true∧∃b,SetAt bx i xs b∧Z b:=⟨h1,bx',hs,h⟩
theorem XP{P:Program}{N:Dim}{l:List Oper}{Q:Exit→AS→Prop}{S:AH→Prop}{tl fuel:Nat}{listed:Array Bool}{m:List (Nat×AV)}{ty:TypeId}{pos:String}{af:Array Edge}{gd:Option (Nat×Bool)}{bx bx':List (List AV)}{tk:List Bv}{i T sz a o:Nat}{ag:Bool}{x y:Operand}{av:AV}{row row':List AV}[Typ P T sz ag](hi:l[i]?=some ⟨none,.store T x y,ty,pos,af,gd⟩)(hx:Bp (look m) x=some (.bp a o))(hy:Bp (look m) y=some av)(hb:bx[a]?=some row)(h1:Fe (Bu av)=true)(hl:Nat.beq (Bu av).length sz=true)(hpos:Nat.blt 0 sz=true)(hs:SetAt row o (Bu av) row')(hset:SetAt bx a [row'] bx')(hr:Region.ready .any l.toArray listed=[i])(hw:By l.toArray (look m) ⟨none,.store T x y,ty,pos,af,gd⟩=some true)(hS:Nat.ble tl i=true∨S ⟨bx',tk⟩):Do i (AAny P N l.toArray Q S tl fuel (listed.setIfInBounds i true) ⟨look m,⟨bx',tk⟩⟩) (AAny P N l.toArray Q S tl (fuel+1) listed ⟨look m,⟨bx,tk⟩⟩):=fun H=>GN i hi (F1 hx hy hb h1 hl hpos hs hset ⟨hS,H⟩) hr hw
theorem CG(i:Nat){A B:Prop}(k:Do i B A:=by exact XP rfl rfl rfl rfl rfl rfl rfl (by repeat constructor) (by repeat constructor) (by kernel_rfl) (by first|rfl|exact B3 rfl rfl (DK ‹_›)|exact B3 rfl rfl (DL ‹_›)|exact B3 rfl rfl (by simp[*])) (by first|exact .inl rfl|exact .inr rfl|exact .inr (by repeat (first|exact L7 _|refine L8 rfl ?_))))(h:B):A:=k h
theorem Fw{A:Prop}(h:False:=by first|contradiction|omega):A:=h.elim
structure HsB (B:Prop):Prop where
 h:B
theorem B5{A B:Prop}(k:HsB B→A:=by intro b;exact a_ (h:=e_ (b.1)))(h:B):A:=k ⟨h⟩
theorem B1{A B:Prop}(k:HsB B→A:=by intro b;exact Cp (h:=Cp (h:=b.1)))(h:B):A:=k ⟨h⟩
theorem AN{A B:Prop}(k:HsB B→A:=by intro b;exact f_ (h:=l_ (h:=b.1)))(h:B):A:=k ⟨h⟩
theorem At{A B:Prop}(k:HsB B→A:=by intro b;exact B5 (h:=Ax (b.1)))(h:B):A:=k ⟨h⟩
theorem Aa{A B:Prop}(k:HsB B→A:=by intro b;exact w_ (m_ (h:=b.1)))(h:B):A:=k ⟨h⟩
theorem E6{A B:Prop}(k:HsB B→A:=by intro b;exact B1 (h:=Cp (h:=b.1)))(h:B):A:=k ⟨h⟩
theorem Gt{A B:Prop}(k:HsB B→A:=by intro b;exact w_ (At (h:=b.1)))(h:B):A:=k ⟨h⟩
theorem Ah{A B:Prop}(k:HsB B→A:=by intro b;exact w_ (AN (h:=b.1)))(h:B):A:=k ⟨h⟩
theorem BY{A B:Prop}(k:HsB B→A:=by intro b;exact Bc (h:=m_ (h:=b.1)))(h:B):A:=k ⟨h⟩
theorem BQ{A B:Prop}(k:HsB B→A:=by intro b;exact C0 (h:=m_ (h:=b.1)))(h:B):A:=k ⟨h⟩
theorem BF{A B:Prop}(k:HsB B→A:=by intro b;exact B1 (h:=B1 (h:=b.1)))(h:B):A:=k ⟨h⟩
theorem BD{A B:Prop}(k:HsB B→A:=by intro b;exact q_ (Aa (h:=b.1)))(h:B):A:=k ⟨h⟩
theorem Be{A B:Prop}(k:HsB B→A:=by intro b;exact w_ (l_ (h:=b.1)))(h:B):A:=k ⟨h⟩
theorem HG{A B:Prop}(k:HsB B→A:=by intro b;exact ET (h:=B5 (h:=b.1)))(h:B):A:=k ⟨h⟩
theorem De{A B:Prop}(k:HsB B→A:=by intro b;exact Ck (h:=s_ (h:=b.1)))(h:B):A:=k ⟨h⟩
theorem LA{A B:Prop}(k:HsB B→A:=by intro b;exact D4 (h:=s_ (h:=b.1)))(h:B):A:=k ⟨h⟩
theorem LC{A B:Prop}(k:HsB B→A:=by intro b;exact Jk (h:=Jk (h:=b.1)))(h:B):A:=k ⟨h⟩
theorem KS{A B:Prop}(k:HsB B→A:=by intro b;exact a_ (h:=At (h:=b.1)))(h:B):A:=k ⟨h⟩
theorem BV{A B:Prop}(k:HsB B→A:=by intro b;exact B2 (m_ (h:=b.1)))(h:B):A:=k ⟨h⟩
theorem Bi{A B:Prop}(k:HsB B→A:=by intro b;exact B5 (h:=BD (h:=b.1)))(h:B):A:=k ⟨h⟩
theorem Sg{A B:Prop}(k:HsB B→A:=by intro b;exact Cz (h:=Gt (h:=b.1)))(h:B):A:=k ⟨h⟩
theorem Bl{A B:Prop}(k:HsB B→A:=by intro b;exact Be (h:=l_ (h:=b.1)))(h:B):A:=k ⟨h⟩
theorem BJ{A B:Prop}(k:HsB B→A:=by intro b;exact B5 (h:=Aa (h:=b.1)))(h:B):A:=k ⟨h⟩
theorem XQ{A B:Prop}(k:HsB B→A:=by intro b;exact b_ (h:=b_ (h:=b.1)))(h:B):A:=k ⟨h⟩
theorem Pu{A B:Prop}(k:HsB B→A:=by intro b;exact x_ (h:=x_ (h:=b.1)))(h:B):A:=k ⟨h⟩
theorem EG{A B:Prop}(k:HsB B→A:=by intro b;exact a_ (h:=CP (b.1)))(h:B):A:=k ⟨h⟩
theorem EU{A B:Prop}(k:HsB B→A:=by intro b;exact B1 (h:=E6 (h:=b.1)))(h:B):A:=k ⟨h⟩
theorem Fx{A B:Prop}(k:HsB B→A:=by intro b;exact m_ (h:=Pu (h:=b.1)))(h:B):A:=k ⟨h⟩
theorem XR{A B:Prop}(k:HsB B→A:=by intro b;exact BV (h:=HA (h:=b.1)))(h:B):A:=k ⟨h⟩
theorem LD{A B:Prop}(k:HsB B→A:=by intro b;exact XR (h:=EG (h:=b.1)))(h:B):A:=k ⟨h⟩
theorem F6{A B:Prop}(k:HsB B→A:=by intro b;exact Gl (BS (b.1)))(h:B):A:=k ⟨h⟩
theorem BK{A B:Prop}(k:HsB B→A:=by intro b;exact At (h:=F6 (h:=b.1)))(h:B):A:=k ⟨h⟩
theorem Ce{A B:Prop}(k:HsB B→A:=by intro b;exact E6 (h:=Bc (h:=b.1)))(h:B):A:=k ⟨h⟩
theorem Bg{A B:Prop}(k:HsB B→A:=by intro b;exact AN (h:=Gs (h:=b.1)))(h:B):A:=k ⟨h⟩
theorem B6{A B:Prop}(k:HsB B→A:=by intro b;exact w_ (HG (h:=b.1)))(h:B):A:=k ⟨h⟩
theorem Bm{A B:Prop}(k:HsB B→A:=by intro b;exact f_ (h:=s_ (h:=b.1)))(h:B):A:=k ⟨h⟩
theorem C1{A B:Prop}(k:HsB B→A:=by intro b;exact C0 (h:=e_ (b.1)))(h:B):A:=k ⟨h⟩
theorem Pv{A B:Prop}(k:HsB B→A:=by intro b;exact De (h:=At (h:=b.1)))(h:B):A:=k ⟨h⟩
theorem Dt{A B:Prop}(k:HsB B→A:=by intro b;exact Fx (h:=LA (h:=b.1)))(h:B):A:=k ⟨h⟩
theorem F7{A B:Prop}(k:HsB B→A:=by intro b;exact q_ (Ah (h:=b.1)))(h:B):A:=k ⟨h⟩
theorem EV{A B:Prop}(k:HsB B→A:=by intro b;exact w_ (XQ (h:=b.1)))(h:B):A:=k ⟨h⟩
theorem CW{A B:Prop}(k:HsB B→A:=by intro b;exact AN (h:=ET (h:=b.1)))(h:B):A:=k ⟨h⟩
theorem CX{A B:Prop}(k:HsB B→A:=by intro b;exact m_ (h:=ET (h:=b.1)))(h:B):A:=k ⟨h⟩
theorem EW{A B:Prop}(k:HsB B→A:=by intro b;exact E6 (h:=BY (h:=b.1)))(h:B):A:=k ⟨h⟩
theorem Df{A B:Prop}(k:HsB B→A:=by intro b;exact w_ (B5 (h:=b.1)))(h:B):A:=k ⟨h⟩
theorem BZ{A B:Prop}(k:HsB B→A:=by intro b;exact Hs (h:=e_ (b.1)))(h:B):A:=k ⟨h⟩
theorem Cl{A B:Prop}(k:HsB B→A:=by intro b;exact Bc (h:=e_ (b.1)))(h:B):A:=k ⟨h⟩
theorem Bd{A B:Prop}(k:HsB B→A:=by intro b;exact Gt (h:=BS (b.1)))(h:B):A:=k ⟨h⟩
theorem Ct{A B:Prop}(k:HsB B→A:=by intro b;exact AN (h:=n_ (h:=b.1)))(h:B):A:=k ⟨h⟩
theorem Cu{A B:Prop}(k:HsB B→A:=by intro b;exact E6 (h:=C0 (h:=b.1)))(h:B):A:=k ⟨h⟩
theorem Cv{A B:Prop}(k:HsB B→A:=by intro b;exact Sg (h:=F6 (h:=b.1)))(h:B):A:=k ⟨h⟩
theorem Cw{A B:Prop}(k:HsB B→A:=by intro b;exact Gt (h:=F6 (h:=b.1)))(h:B):A:=k ⟨h⟩
theorem D6{A B:Prop}(k:HsB B→A:=by intro b;exact Be (h:=s_ (h:=b.1)))(h:B):A:=k ⟨h⟩
theorem D7{A B:Prop}(k:HsB B→A:=by intro b;exact C1 (h:=KP (h:=b.1)))(h:B):A:=k ⟨h⟩
theorem Bj{A B:Prop}(k:HsB B→A:=by intro b;exact BS (F6 (h:=b.1)))(h:B):A:=k ⟨h⟩
theorem Sh{A B:Prop}(k:HsB B→A:=by intro b;exact LD (h:=Ab (b.1)))(h:B):A:=k ⟨h⟩
theorem XS{A B:Prop}(k:HsB B→A:=by intro b;exact t_ (Sh (h:=b.1)))(h:B):A:=k ⟨h⟩
theorem EH{A B:Prop}(k:HsB B→A:=by intro b;exact Am (XS (h:=b.1)))(h:B):A:=k ⟨h⟩
theorem DE{A B:Prop}(k:HsB B→A:=by intro b;exact Bc (h:=B5 (h:=b.1)))(h:B):A:=k ⟨h⟩
theorem DF{A B:Prop}(k:HsB B→A:=by intro b;exact m_ (h:=m_ (h:=b.1)))(h:B):A:=k ⟨h⟩
theorem Jm{A B:Prop}(k:HsB B→A:=by intro b;exact LC (h:=Jk (h:=b.1)))(h:B):A:=k ⟨h⟩
theorem Du{A B:Prop}(k:HsB B→A:=by intro b;exact KS (h:=BS (b.1)))(h:B):A:=k ⟨h⟩
theorem C2{A B:Prop}(k:HsB B→A:=by intro b;exact ET (h:=e_ (b.1)))(h:B):A:=k ⟨h⟩
theorem DS{A B:Prop}(k:HsB B→A:=by intro b;exact Hs (h:=m_ (h:=b.1)))(h:B):A:=k ⟨h⟩
theorem DT{A B:Prop}(k:HsB B→A:=by intro b;exact ET (h:=m_ (h:=b.1)))(h:B):A:=k ⟨h⟩
theorem KT{A B:Prop}(k:HsB B→A:=by intro b;exact w_ (Pv (h:=b.1)))(h:B):A:=k ⟨h⟩
theorem C6{A B:Prop}(k:HsB B→A:=by intro b;exact Gs (h:=e_ (b.1)))(h:B):A:=k ⟨h⟩
theorem Dg{A B:Prop}(k:HsB B→A:=by intro b;exact EV (h:=B5 (h:=b.1)))(h:B):A:=k ⟨h⟩
theorem Ht{A B:Prop}(k:HsB B→A:=by intro b;exact LC (h:=LC (h:=b.1)))(h:B):A:=k ⟨h⟩
theorem Dh{A B:Prop}(k:HsB B→A:=by intro b;exact i_ (h:=l_ (h:=b.1)))(h:B):A:=k ⟨h⟩
theorem Dv{A B:Prop}(k:HsB B→A:=by intro b;exact BD (h:=m_ (h:=b.1)))(h:B):A:=k ⟨h⟩
theorem Dw{A B:Prop}(k:HsB B→A:=by intro b;exact Dd (h:=m_ (h:=b.1)))(h:B):A:=k ⟨h⟩
theorem EX{A B:Prop}(k:HsB B→A:=by intro b;exact t_ (Gt (h:=b.1)))(h:B):A:=k ⟨h⟩
theorem E7{A B:Prop}(k:HsB B→A:=by intro b;exact Gs (h:=m_ (h:=b.1)))(h:B):A:=k ⟨h⟩
theorem CY{A B:Prop}(k:HsB B→A:=by intro b;exact LA (h:=e_ (b.1)))(h:B):A:=k ⟨h⟩
theorem Cf{A B:Prop}(k:HsB B→A:=by intro b;exact KT (h:=BS (b.1)))(h:B):A:=k ⟨h⟩
theorem EJ{A B:Prop}(k:HsB B→A:=by intro b;exact Aa (h:=m_ (h:=b.1)))(h:B):A:=k ⟨h⟩
theorem EK{A B:Prop}(k:HsB B→A:=by intro b;exact KS (h:=F6 (h:=b.1)))(h:B):A:=k ⟨h⟩
theorem EL{A B:Prop}(k:HsB B→A:=by intro b;exact b_ (h:=D4 (h:=b.1)))(h:B):A:=k ⟨h⟩
theorem EY{A B:Prop}(k:HsB B→A:=by intro b;exact C0 (h:=At (h:=b.1)))(h:B):A:=k ⟨h⟩
theorem O3{A B:Prop}(k:HsB B→A:=by intro b;exact B5 (h:=KP (h:=b.1)))(h:B):A:=k ⟨h⟩
theorem EZ{A B:Prop}(k:HsB B→A:=by intro b;exact E6 (h:=BQ (h:=b.1)))(h:B):A:=k ⟨h⟩
theorem Ea{A B:Prop}(k:HsB B→A:=by intro b;exact Dt (h:=Bi (h:=b.1)))(h:B):A:=k ⟨h⟩
theorem Eb{A B:Prop}(k:HsB B→A:=by intro b;exact BQ (h:=EU (h:=b.1)))(h:B):A:=k ⟨h⟩
theorem GO{A B:Prop}(k:HsB B→A:=by intro b;exact Sg (h:=BS (b.1)))(h:B):A:=k ⟨h⟩
theorem Em{A B:Prop}(k:HsB B→A:=by intro b;exact l_ (h:=l_ (h:=b.1)))(h:B):A:=k ⟨h⟩
theorem Eo{A B:Prop}(k:HsB B→A:=by intro b;exact BF (h:=Jm (h:=b.1)))(h:B):A:=k ⟨h⟩
theorem XT{A B:Prop}(k:HsB B→A:=by intro b;exact HA (h:=m_ (h:=b.1)))(h:B):A:=k ⟨h⟩
theorem Pw{A B:Prop}(k:HsB B→A:=by intro b;exact Ck (h:=m_ (h:=b.1)))(h:B):A:=k ⟨h⟩
theorem Ep{A B:Prop}(k:HsB B→A:=by intro b;exact De (h:=Du (h:=b.1)))(h:B):A:=k ⟨h⟩
theorem Er{A B:Prop}(k:HsB B→A:=by intro b;exact EU (h:=BY (h:=b.1)))(h:B):A:=k ⟨h⟩
theorem Bq{A B:Prop}(k:HsB B→A:=by intro b;exact CP (Ab (b.1)))(h:B):A:=k ⟨h⟩
theorem Es{A B:Prop}(k:HsB B→A:=by intro b;exact XT (h:=Bq (h:=b.1)))(h:B):A:=k ⟨h⟩
theorem Si{A B:Prop}(k:HsB B→A:=by intro b;exact Df (h:=BL (b.1)))(h:B):A:=k ⟨h⟩
theorem D0{A B:Prop}(k:HsB B→A:=by intro b;exact AK (F7 (h:=b.1)))(h:B):A:=k ⟨h⟩
theorem F8{A B:Prop}(k:HsB B→A:=by intro b;exact Cl (h:=GO (h:=b.1)))(h:B):A:=k ⟨h⟩
theorem F9{A B:Prop}(k:HsB B→A:=by intro b;exact Bl (h:=m_ (h:=b.1)))(h:B):A:=k ⟨h⟩
theorem D8{A B:Prop}(k:HsB B→A:=by intro b;exact q_ (Si (h:=b.1)))(h:B):A:=k ⟨h⟩
theorem FM{A B:Prop}(k:HsB B→A:=by intro b;exact EV (h:=D4 (h:=b.1)))(h:B):A:=k ⟨h⟩
theorem FN{A B:Prop}(k:HsB B→A:=by intro b;exact Bc (h:=At (h:=b.1)))(h:B):A:=k ⟨h⟩
theorem FO{A B:Prop}(k:HsB B→A:=by intro b;exact C0 (h:=O3 (h:=b.1)))(h:B):A:=k ⟨h⟩
theorem FP{A B:Prop}(k:HsB B→A:=by intro b;exact Pw (h:=s_ (h:=b.1)))(h:B):A:=k ⟨h⟩
theorem FQ{A B:Prop}(k:HsB B→A:=by intro b;exact m_ (h:=Cd (h:=b.1)))(h:B):A:=k ⟨h⟩
theorem Fl{A B:Prop}(k:HsB B→A:=by intro b;exact BF (h:=Bc (h:=b.1)))(h:B):A:=k ⟨h⟩
theorem Fm{A B:Prop}(k:HsB B→A:=by intro b;exact n_ (h:=m_ (h:=b.1)))(h:B):A:=k ⟨h⟩
theorem FR{A B:Prop}(k:HsB B→A:=by intro b;exact AK (q_ (b.1)))(h:B):A:=k ⟨h⟩
theorem Bk{A B:Prop}(k:HsB B→A:=by intro b;exact FR (h:=BL (b.1)))(h:B):A:=k ⟨h⟩
theorem Di{A B:Prop}(k:HsB B→A:=by intro b;exact As (EH (h:=b.1)))(h:B):A:=k ⟨h⟩
theorem Dj{A B:Prop}(k:HsB B→A:=by intro b;exact Dd (h:=e_ (b.1)))(h:B):A:=k ⟨h⟩
theorem Dk{A B:Prop}(k:HsB B→A:=by intro b;exact Fk (h:=e_ (b.1)))(h:B):A:=k ⟨h⟩
theorem Fy{A B:Prop}(k:HsB B→A:=by intro b;exact f_ (h:=AN (h:=b.1)))(h:B):A:=k ⟨h⟩
theorem Fz{A B:Prop}(k:HsB B→A:=by intro b;exact AN (h:=Fk (h:=b.1)))(h:B):A:=k ⟨h⟩
theorem G0{A B:Prop}(k:HsB B→A:=by intro b;exact Ht (h:=Cp (h:=b.1)))(h:B):A:=k ⟨h⟩
theorem G2{A B:Prop}(k:HsB B→A:=by intro b;exact B5 (h:=F7 (h:=b.1)))(h:B):A:=k ⟨h⟩
theorem G3{A B:Prop}(k:HsB B→A:=by intro b;exact Ah (h:=m_ (h:=b.1)))(h:B):A:=k ⟨h⟩
theorem G4{A B:Prop}(k:HsB B→A:=by intro b;exact EW (h:=Ce (h:=b.1)))(h:B):A:=k ⟨h⟩
theorem G5{A B:Prop}(k:HsB B→A:=by intro b;exact C0 (h:=Bq (h:=b.1)))(h:B):A:=k ⟨h⟩
theorem Px{A B:Prop}(k:HsB B→A:=by intro b;exact Ks (JF (b.1)))(h:B):A:=k ⟨h⟩
theorem XU{A B:Prop}(k:HsB B→A:=by intro b;exact Px (h:=JF (b.1)))(h:B):A:=k ⟨h⟩
theorem MG{A B:Prop}(k:HsB B→A:=by intro b;exact XU (h:=Jb (b.1)))(h:B):A:=k ⟨h⟩
theorem Cg{A B:Prop}(k:HsB B→A:=by intro b;exact MG (h:=t_ (b.1)))(h:B):A:=k ⟨h⟩
theorem FS{A B:Prop}(k:HsB B→A:=by intro b;exact MG (h:=EX (h:=b.1)))(h:B):A:=k ⟨h⟩
theorem E8{A B:Prop}(k:HsB B→A:=by intro b;exact EG (h:=Ab (b.1)))(h:B):A:=k ⟨h⟩
theorem Ch{P:Program}{T z:Nat}{a:Bool}(h:KC P T=some (z,a):=by kernel_rfl):Typ P T z a:=⟨h⟩
instance :Typ prog 3 1 false:=Ch
instance :Typ prog 4 1 false:=Ch
instance :Zer prog 4 [.v (.bool false)]:=⟨[.bool false],by kernel_rfl,rfl,rfl⟩
instance :Typ prog 9 1 false:=Ch
instance :Typ prog 22 1 false:=Ch
instance :Elm prog 22 3 1 8:=⟨by kernel_rfl,by decide⟩
instance :Typ prog 26 2 true:=Ch
instance :Zer prog 26 [.v (.int .i64 0), .v (.int .i64 0)]:=⟨[.int .i64 0, .int .i64 0],by kernel_rfl,rfl,rfl⟩
theorem E9{P:Program}{T:Nat}{l:List (Nat×Nat)}(h:N6 P T=some l:=by kernel_rfl):Plc P T l:=⟨h⟩
instance :Plc prog 26 [(0,1),(1,1)]:=E9
theorem Ay{P:Program}{T i o z:Nat}(h:N4 P T i=some (o,z):=by kernel_rfl):Fld P T i o z:=⟨h⟩
instance :Fld prog 26 0 0 1:=Ay
instance :Fld prog 26 1 1 1:=Ay
instance :Zer prog 29 [.v (.int .i64 0), .v (.int .i64 0), .v (.int .i64 0), .v (.int .i64 0), .v (.int .i64 0), .v (.int .i64 0), .v (.int .i64 0), .v (.int .i64 0), .v (.int .i64 0), .v (.int .i64 0), .v (.string ⟨#[]⟩), .v (.string ⟨#[]⟩), .v (.slice none 0 0), .v (.bool false)]:=⟨[.int .i64 0, .int .i64 0, .int .i64 0, .int .i64 0, .int .i64 0, .int .i64 0, .int .i64 0, .int .i64 0, .int .i64 0, .int .i64 0, .string ⟨#[]⟩, .string ⟨#[]⟩, .slice none 0 0, .bool false],by kernel_rfl,rfl,rfl⟩
instance :Plc prog 29 [(0,1),(1,1),(2,1),(3,1),(4,1),(5,1),(6,1),(7,1),(8,2),(10,1),(11,1),(12,1),(13,1)]:=E9
instance :Fld prog 29 0 0 1:=Ay
instance :Fld prog 29 1 1 1:=Ay
instance :Fld prog 29 2 2 1:=Ay
instance :Fld prog 29 3 3 1:=Ay
instance :Fld prog 29 4 4 1:=Ay
instance :Fld prog 29 5 5 1:=Ay
instance :Fld prog 29 6 6 1:=Ay
instance :Fld prog 29 7 7 1:=Ay
instance :Fld prog 29 9 10 1:=Ay
instance :Fld prog 29 10 11 1:=Ay
instance :Fld prog 29 12 13 1:=Ay
instance :Elm prog 31 9 1 16:=⟨by kernel_rfl,by decide⟩
instance :Fld prog 33 0 0 1:=Ay
instance :Fld prog 33 1 1 4:=Ay
instance :Typ prog 34 1 false:=Ch
instance :Elm prog 34 121 13 128:=⟨by kernel_rfl,by decide⟩
instance :Typ prog 36 25 true:=Ch
instance :Zer prog 36 [.v (.int .i64 0), .v (.int .i64 0), .v (.int .i64 0), .v (.int .i64 0), .v (.int .i64 0), .v (.int .i64 0), .v (.int .i64 0), .v (.int .i64 0), .v (.int .i64 0), .v (.int .i64 0), .v (.int .i64 0), .v (.string ⟨#[]⟩), .v (.string ⟨#[]⟩), .v (.slice none 0 0), .v (.bool false), .v (.int .i64 0), .v (.int .i64 0), .v (.int .i64 0), .v (.int .i64 0), .v (.int .i64 0), .v (.slice none 0 0), .v (.slice none 0 0), .v (.int .i64 0), .v (.slice none 0 0), .v (.int .i64 0)]:=⟨[.int .i64 0, .int .i64 0, .int .i64 0, .int .i64 0, .int .i64 0, .int .i64 0, .int .i64 0, .int .i64 0, .int .i64 0, .int .i64 0, .int .i64 0, .string ⟨#[]⟩, .string ⟨#[]⟩, .slice none 0 0, .bool false, .int .i64 0, .int .i64 0, .int .i64 0, .int .i64 0, .int .i64 0, .slice none 0 0, .slice none 0 0, .int .i64 0, .slice none 0 0, .int .i64 0],by kernel_rfl,rfl,rfl⟩
instance :Plc prog 36 [(0,1),(1,14),(15,7),(22,1),(23,1),(24,1)]:=E9
instance :Fld prog 36 0 0 1:=Ay
instance :Fld prog 36 1 1 14:=Ay
instance :Fld prog 36 2 15 7:=Ay
instance :Fld prog 36 3 22 1:=Ay
instance :Fld prog 36 4 23 1:=Ay
instance :Fld prog 36 5 24 1:=Ay
instance :Typ prog 37 1 false:=Ch
instance :Elm prog 37 148 2 32:=⟨by kernel_rfl,by decide⟩
instance :Typ prog 39 1 true:=Ch
instance :Zer prog 39 [.v (.slice none 0 0)]:=⟨[.slice none 0 0],by kernel_rfl,rfl,rfl⟩
instance :Plc prog 39 [(0,1)]:=E9
instance :Fld prog 39 0 0 1:=Ay
instance :Typ prog 40 1 false:=Ch
instance :Elm prog 40 185 3 24:=⟨by kernel_rfl,by decide⟩
instance :Typ prog 42 2 true:=Ch
instance :Zer prog 42 [.v (.slice none 0 0), .v (.slice none 0 0)]:=⟨[.slice none 0 0, .slice none 0 0],by kernel_rfl,rfl,rfl⟩
instance :Plc prog 42 [(0,1),(1,1)]:=E9
instance :Fld prog 42 0 0 1:=Ay
instance :Fld prog 42 1 1 1:=Ay
instance :Elm prog 43 29 14 144:=⟨by kernel_rfl,by decide⟩
instance :Typ prog 45 3 true:=Ch
instance :Zer prog 45 [.v (.int .i64 0), .v (.int .i64 0), .v (.slice none 0 0)]:=⟨[.int .i64 0, .int .i64 0, .slice none 0 0],by kernel_rfl,rfl,rfl⟩
instance :Plc prog 45 [(0,1),(1,1),(2,1)]:=E9
instance :Typ prog 47 5 true:=Ch
instance :Zer prog 47 [.v (.slice none 0 0), .v (.slice none 0 0), .v (.int .i64 0), .v (.int .i64 0), .v (.slice none 0 0)]:=⟨[.slice none 0 0, .slice none 0 0, .int .i64 0, .int .i64 0, .slice none 0 0],by kernel_rfl,rfl,rfl⟩
instance :Plc prog 47 [(0,2),(2,3)]:=E9
instance :Fld prog 47 0 0 2:=Ay
instance :Elm prog 48 248 7 64:=⟨by kernel_rfl,by decide⟩
instance :Typ prog 54 1 false:=Ch
instance :Elm prog 54 83 8 96:=⟨by kernel_rfl,by decide⟩
instance :Typ prog 57 1 false:=Ch
instance :Elm prog 57 4 1 1:=⟨by kernel_rfl,by decide⟩
instance :Typ prog 61 1 false:=Ch
instance :Elm prog 61 93 6 56:=⟨by kernel_rfl,by decide⟩
instance :Typ prog 63 2 true:=Ch
instance :Zer prog 63 [.v (.slice none 0 0), .v (.slice none 0 0)]:=⟨[.slice none 0 0, .slice none 0 0],by kernel_rfl,rfl,rfl⟩
instance :Plc prog 63 [(0,1),(1,1)]:=E9
instance :Fld prog 63 0 0 1:=Ay
instance :Fld prog 63 1 1 1:=Ay
instance :Typ prog 67 3 true:=Ch
instance :Zer prog 67 [.v (.bool false), .v (.int .i64 0), .v (.string ⟨#[]⟩)]:=⟨[.bool false, .int .i64 0, .string ⟨#[]⟩],by kernel_rfl,rfl,rfl⟩
instance :Plc prog 67 [(0,1),(1,1),(2,1)]:=E9
instance :Fld prog 67 0 0 1:=Ay
instance :Fld prog 67 1 1 1:=Ay
instance :Fld prog 67 2 2 1:=Ay
instance :Typ prog 80 1 false:=Ch
instance :Typ prog 81 1 false:=Ch
instance :Elm prog 81 115 5 48:=⟨by kernel_rfl,by decide⟩
instance :Typ prog 83 8 true:=Ch
instance :Zer prog 83 [.v (.int .i64 0), .v (.int .i64 0), .v (.int .u64 0), .v (.slice none 0 0), .v (.int .i64 0), .v (.string ⟨#[]⟩), .v (.int .i64 0), .v (.string ⟨#[]⟩)]:=⟨[.int .i64 0, .int .i64 0, .int .u64 0, .slice none 0 0, .int .i64 0, .string ⟨#[]⟩, .int .i64 0, .string ⟨#[]⟩],by kernel_rfl,rfl,rfl⟩
instance :Plc prog 83 [(0,1),(1,1),(2,1),(3,1),(4,1),(5,1),(6,1),(7,1)]:=E9
instance :Fld prog 83 0 0 1:=Ay
instance :Fld prog 83 1 1 1:=Ay
instance :Fld prog 83 2 2 1:=Ay
instance :Fld prog 83 3 3 1:=Ay
instance :Fld prog 83 4 4 1:=Ay
instance :Fld prog 83 5 5 1:=Ay
instance :Fld prog 83 6 6 1:=Ay
instance :Fld prog 83 7 7 1:=Ay
instance :Typ prog 93 6 true:=Ch
instance :Zer prog 93 [.v (.int .i64 0), .v (.int .i64 0), .v (.int .i64 0), .v (.string ⟨#[]⟩), .v (.int .i64 0), .v (.int .i64 0)]:=⟨[.int .i64 0, .int .i64 0, .int .i64 0, .string ⟨#[]⟩, .int .i64 0, .int .i64 0],by kernel_rfl,rfl,rfl⟩
instance :Plc prog 93 [(0,1),(1,2),(3,1),(4,2)]:=E9
instance :Fld prog 93 0 0 1:=Ay
instance :Fld prog 93 1 1 2:=Ay
instance :Fld prog 93 2 3 1:=Ay
instance :Fld prog 93 3 4 2:=Ay
instance :Zer prog 105 [.v (.slice none 0 0), .v (.int .i64 0)]:=⟨[.slice none 0 0, .int .i64 0],by kernel_rfl,rfl,rfl⟩
instance :Plc prog 105 [(0,1),(1,1)]:=E9
instance :Fld prog 105 0 0 1:=Ay
instance :Fld prog 105 1 1 1:=Ay
instance :Typ prog 115 5 true:=Ch
instance :Zer prog 115 [.v (.int .i64 0), .v (.int .i64 0), .v (.int .i64 0), .v (.string ⟨#[]⟩), .v (.int .i64 0)]:=⟨[.int .i64 0, .int .i64 0, .int .i64 0, .string ⟨#[]⟩, .int .i64 0],by kernel_rfl,rfl,rfl⟩
instance :Plc prog 115 [(0,1),(1,1),(2,1),(3,1),(4,1)]:=E9
instance :Fld prog 115 0 0 1:=Ay
instance :Fld prog 115 1 1 1:=Ay
instance :Fld prog 115 2 2 1:=Ay
instance :Fld prog 115 3 3 1:=Ay
instance :Fld prog 115 4 4 1:=Ay
instance :Typ prog 121 13 true:=Ch
instance :Zer prog 121 [.v (.string ⟨#[]⟩), .v (.string ⟨#[]⟩), .v (.int .i64 0), .v (.int .i64 0), .v (.string ⟨#[]⟩), .v (.int .i64 0), .v (.int .i64 0), .v (.int .i64 0), .v (.int .i64 0), .v (.int .i64 0), .v (.int .i64 0), .v (.int .i64 0), .v (.int .i64 0)]:=⟨[.string ⟨#[]⟩, .string ⟨#[]⟩, .int .i64 0, .int .i64 0, .string ⟨#[]⟩, .int .i64 0, .int .i64 0, .int .i64 0, .int .i64 0, .int .i64 0, .int .i64 0, .int .i64 0, .int .i64 0],by kernel_rfl,rfl,rfl⟩
instance :Plc prog 121 [(0,1),(1,1),(2,2),(4,1),(5,2),(7,1),(8,1),(9,1),(10,1),(11,1),(12,1)]:=E9
instance :Fld prog 121 2 2 2:=Ay
instance :Fld prog 121 3 4 1:=Ay
instance :Fld prog 121 4 5 2:=Ay
instance :Fld prog 121 6 8 1:=Ay
instance :Fld prog 121 8 10 1:=Ay
instance :Fld prog 121 9 11 1:=Ay
instance :Fld prog 121 10 12 1:=Ay
instance :Typ prog 125 1 false:=Ch
instance :Typ prog 146 1 false:=Ch
instance :Elm prog 146 151 8 88:=⟨by kernel_rfl,by decide⟩
instance :Typ prog 148 2 true:=Ch
instance :Zer prog 148 [.v (.int .i64 0), .v (.slice none 0 0)]:=⟨[.int .i64 0, .slice none 0 0],by kernel_rfl,rfl,rfl⟩
instance :Plc prog 148 [(0,1),(1,1)]:=E9
instance :Fld prog 148 0 0 1:=Ay
instance :Fld prog 148 1 1 1:=Ay
instance :Typ prog 149 1 false:=Ch
instance :Elm prog 149 234 2 24:=⟨by kernel_rfl,by decide⟩
instance :Typ prog 151 8 true:=Ch
instance :Zer prog 151 [.v (.int .i64 0), .v (.int .i64 0), .v (.int .i64 0), .v (.int .i64 0), .v (.int .i64 0), .v (.int .i64 0), .v (.string ⟨#[]⟩), .v (.slice none 0 0)]:=⟨[.int .i64 0, .int .i64 0, .int .i64 0, .int .i64 0, .int .i64 0, .int .i64 0, .string ⟨#[]⟩, .slice none 0 0],by kernel_rfl,rfl,rfl⟩
instance :Plc prog 151 [(0,1),(1,1),(2,1),(3,1),(4,1),(5,1),(6,1),(7,1)]:=E9
instance :Fld prog 151 0 0 1:=Ay
instance :Fld prog 151 1 1 1:=Ay
instance :Fld prog 151 2 2 1:=Ay
instance :Fld prog 151 3 3 1:=Ay
instance :Fld prog 151 4 4 1:=Ay
instance :Fld prog 151 5 5 1:=Ay
instance :Fld prog 151 6 6 1:=Ay
instance :Fld prog 151 7 7 1:=Ay
instance :Zer prog 176 [.v (.int .i64 0), .v (.int .i64 0), .v (.int .i64 0), .v (.int .i64 0)]:=⟨[.int .i64 0, .int .i64 0, .int .i64 0, .int .i64 0],by kernel_rfl,rfl,rfl⟩
instance :Plc prog 176 [(0,2),(2,2)]:=E9
instance :Typ prog 185 3 true:=Ch
instance :Zer prog 185 [.v (.int .i64 0), .v (.int .i64 0), .v (.int .i64 0)]:=⟨[.int .i64 0, .int .i64 0, .int .i64 0],by kernel_rfl,rfl,rfl⟩
instance :Plc prog 185 [(0,1),(1,2)]:=E9
instance :Fld prog 185 0 0 1:=Ay
instance :Fld prog 185 1 1 2:=Ay
instance :Typ prog 200 8 true:=Ch
instance :Zer prog 200 [.v (.int .i64 0), .v (.int .i64 0), .v (.string ⟨#[]⟩), .v (.int .i64 0), .v (.int .i64 0), .v (.bool false), .v (.bool false), .v (.string ⟨#[]⟩)]:=⟨[.int .i64 0, .int .i64 0, .string ⟨#[]⟩, .int .i64 0, .int .i64 0, .bool false, .bool false, .string ⟨#[]⟩],by kernel_rfl,rfl,rfl⟩
instance :Plc prog 200 [(0,2),(2,1),(3,2),(5,1),(6,1),(7,1)]:=E9
instance :Fld prog 200 0 0 2:=Ay
instance :Fld prog 200 1 2 1:=Ay
instance :Fld prog 200 2 3 2:=Ay
instance :Fld prog 200 3 5 1:=Ay
instance :Fld prog 200 4 6 1:=Ay
instance :Fld prog 200 5 7 1:=Ay
instance :Typ prog 234 2 true:=Ch
instance :Zer prog 234 [.v (.string ⟨#[]⟩), .v (.int .i64 0)]:=⟨[.string ⟨#[]⟩, .int .i64 0],by kernel_rfl,rfl,rfl⟩
instance :Plc prog 234 [(0,1),(1,1)]:=E9
instance :Fld prog 234 0 0 1:=Ay
instance :Fld prog 234 1 1 1:=Ay
instance :Zer prog 248 [.v (.int .i64 0), .v (.int .i64 0), .v (.string ⟨#[]⟩), .v (.int .i64 0), .v (.int .i64 0), .v (.int .i64 0), .v (.int .i64 0)]:=⟨[.int .i64 0, .int .i64 0, .string ⟨#[]⟩, .int .i64 0, .int .i64 0, .int .i64 0, .int .i64 0],by kernel_rfl,rfl,rfl⟩
instance :Plc prog 248 [(0,2),(2,1),(3,2),(5,2)]:=E9
instance :Elm prog 274 125 1 8:=⟨by kernel_rfl,by decide⟩
theorem AO{P:Program}{f:Nat}(h:Nb P f=true:=by kernel_rfl):Fun P f:=⟨h⟩
instance :Fun prog 12:=AO
instance :Fun prog 16:=AO
instance :Fun prog 20:=AO
instance :Fun prog 21:=AO
instance :Fun prog 22:=AO
instance :Fun prog 24:=AO
instance :Fun prog 26:=AO
instance :Fun prog 32:=AO
instance :Fun prog 34:=AO
instance :Fun prog 35:=AO
instance :Fun prog 40:=AO
instance :Fun prog 41:=AO
instance :Fun prog 44:=AO
instance :Fun prog 45:=AO
instance :Fun prog 46:=AO
instance :Fun prog 47:=AO
instance :Fun prog 48:=AO
instance :Fun prog 56:=AO
instance :Fun prog 57:=AO
instance :Fun prog 60:=AO
instance :Fun prog 61:=AO
instance :Fun prog 62:=AO
instance :Fun prog 63:=AO
instance :Fun prog 64:=AO
instance :Fun prog 67:=AO
instance :Fun prog 70:=AO
instance :Fun prog 71:=AO
instance :Fun prog 72:=AO
instance :Fun prog 73:=AO
instance :Fun prog 75:=AO
instance :Fun prog 76:=AO
instance :Fun prog 78:=AO
instance :Fun prog 81:=AO
instance :Fun prog 82:=AO
instance :Fun prog 83:=AO
instance :Fun prog 84:=AO
instance :Fun prog 85:=AO
instance :Fun prog 86:=AO
instance :Fun prog 87:=AO
instance :Fun prog 88:=AO
instance :Fun prog 89:=AO
instance :Fun prog 90:=AO
instance :Fun prog 91:=AO
instance :Fun prog 92:=AO
instance :Fun prog 100:=AO
instance :Fun prog 102:=AO
instance :Fun prog 104:=AO
instance :Fun prog 105:=AO
instance :Fun prog 107:=AO
instance :Fun prog 109:=AO
instance :Fun prog 110:=AO
instance :Fun prog 111:=AO
instance :Fun prog 112:=AO
instance :Fun prog 113:=AO
instance :Fun prog 116:=AO
instance :Fun prog 118:=AO
instance :Fun prog 119:=AO
instance :Fun prog 120:=AO
instance :Fun prog 122:=AO
instance :Fun prog 123:=AO
instance :Fun prog 124:=AO
instance :Fun prog 125:=AO
instance :Fun prog 126:=AO
instance :Fun prog 127:=AO
instance :Fun prog 129:=AO
instance :Fun prog 130:=AO
instance :Fun prog 131:=AO
instance :Fun prog 132:=AO
instance :Fun prog 133:=AO
instance :Fun prog 134:=AO
instance :Fun prog 135:=AO
instance :Fun prog 136:=AO
instance :Fun prog 141:=AO
instance :Fun prog 154:=AO
instance :Fun prog 155:=AO
instance :Fun prog 156:=AO
instance :Fun prog 157:=AO
instance :Fun prog 158:=AO
instance :Fun prog 159:=AO
instance :Fun prog 160:=AO
instance :Fun prog 161:=AO
instance :Fun prog 166:=AO
instance :Fun prog 167:=AO
instance :Fun prog 168:=AO
instance :Fun prog 169:=AO
instance :Fun prog 172:=AO
instance :Fun prog 173:=AO
instance :Fun prog 174:=AO
instance :Fun prog 175:=AO
instance :Fun prog 176:=AO
instance :Fun prog 177:=AO
instance :Fun prog 178:=AO
instance :Fun prog 179:=AO
instance :Fun prog 180:=AO
instance :Fun prog 181:=AO
instance :Fun prog 182:=AO
instance :Fun prog 183:=AO
instance :Fun prog 185:=AO
instance :Fun prog 187:=AO
instance :Fun prog 188:=AO
instance :Fun prog 191:=AO
instance :Fun prog 192:=AO
instance :Fun prog 193:=AO
instance :Fun prog 194:=AO
instance :Fun prog 195:=AO
instance :Fun prog 196:=AO
instance :Fun prog 215:=AO
instance :Fun prog 216:=AO
instance :Fun prog 217:=AO
instance :Fun prog 218:=AO
instance :Fun prog 219:=AO
instance :Fun prog 220:=AO
instance :Fun prog 221:=AO
instance :Fun prog 222:=AO
instance :Fun prog 223:=AO
instance :Fun prog 226:=AO
instance :Fun prog 227:=AO
instance :Fun prog 229:=AO
instance :Fun prog 230:=AO
instance :Fun prog 231:=AO
instance :Fun prog 232:=AO
instance :Fun prog 233:=AO
instance :Fun prog 234:=AO
instance :Fun prog 235:=AO
instance :Fun prog 236:=AO
instance :Fun prog 237:=AO
instance :Fun prog 246:=AO
instance :Fun prog 247:=AO
instance :Fun prog 248:=AO
instance :Fun prog 254:=AO
instance :Fun prog 255:=AO
instance :Fun prog 256:=AO
instance :Fun prog 257:=AO
instance :Fun prog 258:=AO
end Go.Proofs.YtbgnigjfkbmceaaGreatDoor
namespace Go.Proofs.YtbgnigjfkbmceaaGreatDoor
abbrev AB:=ByteArray
abbrev A7:=Int×Int
abbrev B0:=AB×Int
abbrev DU:=Int×A7
abbrev MH:=A7×AB×A7×A7
structure Nod where
 ino:Int
 kind:Int
 mode:Int
 uid:Int
 gid:Int
 parent:Int
 target:AB
 entries:List B0
structure Dvc where
 next:Int
 nodes:List Nod
abbrev AM:=List Dvc
structure Spc where
 files:AM
 mounts:List DU
def Nod.zero:Nod:=⟨0,0,0,0,0,0,⟨#[]⟩,[]⟩
def KU{α:Type}(p:α→Bool)(l:List α):Int:=
 match l.findIdx? p with
 |some i=>(i:Int)
 |none=> -1
def GP{α:Type}(l:List α)(i:Int):Option α:=if i<0 then none else l[i.toNat]?
theorem KV{α:Type}(l:List α)(k:Nat):GP l (k:Int)=l[k]?:=by
 simp[GP,show¬((k:Int)<0) by omega]
theorem O4{α:Type}{l:List α}{i:Int}(h:i<0∨(l.length:Int)≤i):GP l i=none:=by
 unfold GP;split
 ·rfl
 rw[List.getElem?_eq_none];omega
theorem XV{α:Type}{l:List α}{i:Int}{x:α}(h:GP l i=some x):0≤i∧i<l.length∧l[i.toNat]?=some x:=by
 unfold GP at h;split at h
 ·cases h
 have:=(AP.1 h).1;exact⟨by omega,by omega,h⟩
theorem Sj{α:Type}{p:α→Bool}{l:List α}{m:Nat}{x:α}(hx:l[m]?=some x)(hp:p x=true)(h:∀j y,j<m→l[j]?=some y→p y=false):l.findIdx? p=some m:=by
 have hl:m<l.length:=(AP.1 hx).1;rw[List.findIdx?_eq_some_iff_getElem];refine⟨hl,by rw[(AP.1 hx).2];exact hp,fun j hj=>?_⟩;have:=h j l[j] hj (BA _);simp[this]
theorem Sk{α:Type}{p:α→Bool}{l:List α}{m:Nat}{x:α}(hx:l[m]?=some x)(hp:p x=true)(h:∀j y,j<m→l[j]?=some y→p y=false):KU p l=m:=by
 unfold KU;rw[Sj hx hp h]
theorem XW{α:Type}{p:α→Bool}{l:List α}(h:∀j y,j<l.length→l[j]?=some y→p y=false):KU p l= -1:=by
 unfold KU;rw[List.findIdx?_eq_none_iff.2];intro x hx;obtain⟨j,hj,rfl⟩:=List.mem_iff_getElem.1 hx;exact h j _ hj (BA hj)
theorem Hu{α:Type}{P:α→Prop}{l:List α}{m:Nat}{x:α}(hx:l[m]?=some x)(h:∀j y,j<m→l[j]?=some y→P y)(hp:P x):∀j y,j<m+1→l[j]?=some y→P y:=by
 intro j y hj hy;by_cases e:j=m
 ·subst e;rw[hx]at hy;cases hy;exact hp
 exact h j y (by omega) hy
def FT(f:AM)(at_:A7):Int:=
 match GP f at_.1 with
 |none=> -1
 |some d=>KU (fun n:Nod=>n.ino==at_.2) d.nodes
def Ba(f:AM)(at_:A7):Option Nod:=
 match GP f at_.1 with
 |none=>none
 |some d=>d.nodes.find? (fun n:Nod=>n.ino==at_.2)
theorem Sl{α:Type}{p:α→Bool}{l:List α}:(l.findIdx? p).bind (fun i=>l[i]?)=l.find? p:=by
 cases h:l.findIdx? p with
 |none=>
   rw[List.findIdx?_eq_none_iff]at h;simp only[Option.bind_none];exact(List.find?_eq_none.2 (fun x hx=>by simp[h x hx])).symm
 |some i=>
   obtain⟨hi,hp,hf⟩:=List.findIdx?_eq_some_iff_getElem.1 h;simp only[Option.bind_some,BA hi];exact(List.find?_eq_some_iff_getElem.2 ⟨hp,i,hi,rfl,fun j hj=>by simpa using hf j hj⟩).symm
theorem JK(f:AM)(at_:A7):(FT f at_= -1∧Ba f at_=none)∨
    ∃(k i:Nat) (d:Dvc) (n:Nod),at_.1=k∧f[k]?=some d∧d.nodes[i]?=some n∧n.ino=at_.2∧FT f at_=i∧Ba f at_=some n:=by
 unfold FT Ba
 cases h:GP f at_.1 with
 |none=>exact .inl ⟨rfl,rfl⟩
 |some d=>
   obtain⟨h0,h1,h2⟩:=XV h;simp only[←Sl];unfold KU
   cases hi:d.nodes.findIdx? (fun n:Nod=>n.ino==at_.2)with
   |none=>exact .inl ⟨rfl,rfl⟩
   |some i=>
     obtain⟨hl,hp,_⟩:=List.findIdx?_eq_some_iff_getElem.1 hi;exact .inr ⟨at_.1.toNat,i,d,d.nodes[i],by omega,h2,BA hl,by simpa using hp,rfl,by simp⟩
theorem O5(a b:AB):(a.toList==b.toList)=decide (a=b):=by
 rw[ByteArray.toList_eq,ByteArray.toList_eq,Bool.eq_iff_iff];simp only[beq_iff_eq,decide_eq_true_eq];constructor
 ·intro h
  cases a with
  |mk a=>
    cases b with
    |mk b=>exact congrArg ByteArray.mk (Array.toList_inj.1 h)
 intro h;rw[h]
def JL(c:UInt8):Bool:= !((c.toNat:Int)==0)&& !((c.toNat:Int)==47)
def Dl(s:AB):Bool:=
 if s.size<1∨12<s.size then false else if(s.toList==[46])=true then false else if(s.toList==[46,46])=true then false else s.data.toList.all JL
def LE(s:AB):Bool:=s.data.toList.all (fun c=> !((c.toNat:Int)==0))&&decide (1≤s.size)&&decide (s.size≤128)
theorem Sm{p:UInt8→Bool}{s:AB}(h:∀j (hj:j<s.size),p s[j]=true):s.data.toList.all p=true:=by
 rw[List.all_eq_true];intro c hc;obtain⟨j,hj,rfl⟩:=List.mem_iff_getElem.1 hc;exact h j (by simpa using hj)
theorem Py{p:UInt8→Bool}{s:AB}{j:Nat}(hj:j<s.size)(h:p s[j]=false):s.data.toList.all p=false:=by
 rw[List.all_eq_false];refine⟨s[j],?_,by simp[h]⟩;have:s[j]=s.data.toList[j]'(by simpa using hj):=rfl;rw[this];exact List.getElem_mem _
theorem Sn{p:UInt8→Bool}{s:AB}{m:Nat}(hm:m<s.size)(h:∀j (hj:j<s.size),j<m→p s[j]=true)(hp:p s[m]=true):∀j (hj:j<s.size),j<m+1→p s[j]=true:=by
 intro j hj hlt;by_cases e:j=m
 ·subst e;exact hp
 exact h j hj (by omega)
def AZ(f:AM)(at_:A7):Bool:=
 match Ba f at_ with
 |none=>false
 |some n=>n.kind==2
def C7(f:AM)(dir:A7)(name:AB):Int:=
 match Ba f dir with
 |none=>2
 |some n=>if n.kind=2 then(if Dl name then 0 else 22)else 20
def JM(f:AM)(dir:A7):Bool:=
 match Ba f dir with
 |none=>false
 |some n=>decide (12≤n.entries.length)
def Jn(f:AM)(dir:A7):Bool:=
 match Ba f dir with
 |none=>true
 |some n=>decide (n.entries.length=0)
def AG(f:AM)(dir:A7)(name:AB):A7×Int:=
 match Ba f dir with
 |none=>((0,0),2)
 |some n=>if n.kind=2 then
     match n.entries.find? (fun e:B0=>decide (e.1=name))with
     |none=>((0,0),2)
     |some e=>((dir.1,e.2),0)
   else((0,0),20)
def FU(n:Nod):Bool:=
 if n.kind<1∨3<n.kind∨n.mode<0∨511<n.mode∨n.uid<0∨4294967295<n.uid∨n.gid<0∨4294967295<n.gid then false
 else if n.kind=3 then LE n.target else n.target.toList.isEmpty
end Go.Proofs.YtbgnigjfkbmceaaGreatDoor
namespace Go.Proofs.YtbgnigjfkbmceaaGreatDoor
def FA(a b:AB):Bool:=Op.bytesLess a.toList b.toList
def G6(name:AB)(ino:Int):Bool→List B0→List B0
 |done,[]=>if done then[]else[(name,ino)]
 |done,e::r=>
   (if !done&& !FA e.1 name then[(name,ino)]else[])++((if e.1=name then[]else[e])++G6 name ino (done|| !FA e.1 name) r)
def CH(es:List B0)(name:AB)(ino:Int):List B0:=G6 name ino (ino==0) es
def CQ(ino:Int)(es:List B0):Nat:=es.countP fun e:B0=>e.2==ino
def BN(ino:Int)(ns:List Nod):Nat:=CQ ino (ns.flatMap fun n=>n.entries)
def Gu(f:AM)(at_:A7):Nat:=
 match Ba f at_,GP f at_.1 with
 |some _,some d=>BN at_.2 d.nodes
 |_,_=>0
theorem Pz{ino:Int}{es:List B0}{k:Nat}{e:B0}(h:es[k]?=some e):CQ ino (es.take (k+1))=CQ ino (es.take k)+(if e.2==ino then 1 else 0):=by
 unfold CQ;rw[List.take_add_one,h,List.countP_append];simp[List.countP_cons]
theorem XX(ino:Int)(es:List B0):CQ ino es≤es.length:=List.countP_le_length
theorem XY{ino:Int}{ns:List Nod}{m:Nat}{n:Nod}(h:ns[m]?=some n):BN ino (ns.take (m+1))=BN ino (ns.take m)+CQ ino n.entries:=by
 unfold BN CQ;rw[List.take_add_one,h,List.flatMap_append,List.countP_append];simp
def CR(ino:Int)(ns:List Nod):List Nod:=ns.filter fun n=>n.ino != ino
def O6:Nod:=⟨1,2,493,0,0,1,⟨#[]⟩,[]⟩
def LF:Dvc:=⟨2,[O6]⟩
def Et(n:Int):AM×Int:=if n<1∨3<n then([],50)else(List.replicate n.toNat LF,0)
abbrev KW:=AM×List MH×Int
def Ec(n:Nod)(next dirIno:Int):Nod:=⟨next,n.kind,n.mode,n.uid,n.gid,if n.kind=2 then dirIno else 0,n.target,[]⟩
end Go.Proofs.YtbgnigjfkbmceaaGreatDoor
namespace Go.Proofs.YtbgnigjfkbmceaaGreatDoor
open Go.RowKit
theorem Bw{α:Type}(enc:α→List AV){l:List α}{k:Nat}(h:(k:Int)<((l.map enc).length:Int)):k<l.length∧∃x,l[k]?=some x∧(l.map enc)[k]?=some (enc x)∧(l.take (k+1)).map enc=(l.take k).map enc++[enc x]:=by
 have hk:k<l.length:=by simpa using h
 refine⟨hk,l[k],BA hk,by simp[hk],?_⟩;rw[List.take_succ_eq_append_getElem hk,List.map_append];rfl
theorem CS{α:Type}(enc:α→List AV){l:List α}{k:Nat}(hk:k≤l.length)(h:¬(k:Int)<((l.map enc).length:Int)):k=l.length:=by
 simp at h;omega
theorem vb{a b:Bool}(h:a=b):AV.v (.bool a)=AV.v (.bool b):=by rw[h]
theorem vi{k:IntKind}{a b:Int}(h:a=b):AV.v (.int k a)=AV.v (.int k b):=by rw[h]
def A8(x:A7):List AV:=[.v (.int .i64 x.1), .v (.int .i64 x.2)]
def CT(e:B0):List AV:=[.v (.string e.1), .v (.int .i64 e.2)]
def AU(n:Nod):List AV:=[.v (.int .i64 n.ino), .v (.int .i64 n.kind), .v (.int .i64 n.mode), .v (.int .i64 n.uid), .v (.int .i64 n.gid), .v (.int .i64 n.parent), .v (.string n.target), .sl 2 (n.entries.map CT) none]
def Bn(d:Dvc):List AV:=[.v (.int .i64 d.next), .sl 8 (d.nodes.map AU) none]
def AW(f:AM):List AV:=[.sl 2 (f.map Bn) none]
structure FlsB(f:AM):Prop where
 few:f.length≤1000
 nodes:∀d∈f,d.nodes.length≤1000
 ents:∀d∈f,∀n∈d.nodes,n.entries.length≤1000
theorem Q0{f:AM}{a:A7}{k:Nat}{d:Dvc}(hk:a.1=(k:Int))(hd:f[k]?=some d):FT f a=KU (fun n:Nod=>n.ino==a.2) d.nodes:=by
 unfold FT;rw[hk,KV,hd]
def Ai(f:AM)(a:A7):Nod:=(Ba f a).getD Nod.zero
def Cm(f:AM)(a:A7):Bool:=(Ba f a).isSome
theorem Jo(f:AM)(a:A7):AZ f a=(Cm f a&&decide ((Ai f a).kind=2)):=by
 unfold AZ Cm Ai;cases Ba f a<;>simp[PU]
theorem O7{f:AM}(hf:FlsB f)(a:A7):(Ai f a).entries.length≤1000:=by
 rcases JK f a with⟨-,h⟩|⟨k,i,d,n, -,h1,h2, -, -,h⟩
 ·simp[Ai,h,Nod.zero]
 simp only[Ai,h,Option.getD_some];exact hf.ents d (AT h1) n (AT h2)
section
theorem Jp(f:AM)(a:A7)(hf:FlsB f):AFn prog 179 [.agg (AW f), .agg (A8 a)] (fun r=>r= .v (.int .i64 (FT f a))):=by
 refine enter Tryz.func179 rfl rfl rfl rfl rfl 0 rfl ?_;refine Dg (h:=F7 (h:=DS (h:=?_)));refine AF false rfl rfl (fun hb1 hc1=>?_) (fun hb1 hc1=>?_)
 ·refine BF (h:=B1 (h:=F8 (h:=?_)));refine A4 ?_;exact vi (by unfold FT;rw[O4 (.inl hc1)])
 refine AN (h:=Ct (h:=E5 (h:=C1 (h:=?_))));refine A6 rfl (fun hb2 hc2=>?_) (fun hb2 hc2=>?_)
 ·refine Bd (h:=?_);refine A4 ?_;exact vi (by unfold FT;rw[O4 (.inr (by rw[List.length_map]at hc2;exact hc2))])
 obtain⟨k,hk⟩:=Int.eq_ofNat_of_zero_le (show 0≤a.1 by omega);rw[hk]at hc2;obtain⟨-,d,hd,hrow, -⟩:=Bw Bn (l:=f) (k:=k) (by omega);have hdn:=hf.nodes d (AT hd);refine AK (Ah (h:=AN (h:=?_)));refine A3 rfl (EF (n:=k) rfl rfl hk hrow ?_);refine AN (h:=B5 (h:=D8 (h:=?_)));refine BX (fun m s=>∃j:Nat,j≤d.nodes.length∧m=d.nodes.length - j∧(∀i y,i<j→d.nodes[i]?=some y→(y.ino==a.2)=false)∧s=⟨look [(3, .bp 1 0),(5, .sl 8 (d.nodes.map AU) none),(6, .v (.int .i64 (j:Int)))],⟨[AW f,A8 a],[]⟩⟩) (d.nodes.length) ((wk 2 0)) (⟨0,by omega,rfl,fun i y hi=>by omega,rfl⟩) ?_;rintro m s ⟨j,hj,rfl,ha,rfl⟩;refine Dv (h:=n_ (h:=BZ (h:=?_)));refine A6 rfl (fun hb3 hc3=>?_) (fun hb3 hc3=>?_)
 ·obtain⟨hlt,n,hy,hrow2, -⟩:=Bw AU hc3;refine AK (q_ (BL (q_ (E4 8 (h:=Ac 0 (h:=Ac 1 (h:=FK 2 (h:=Ar 3 (h:=AD 4 (h:=Ar 5 (h:=AD 6 (h:=Fj 7 (h:=z_ (h:=t_ (?_)))))))))))))));refine A6 rfl (fun hb4 hc4=>?_) (fun hb4 hc4=>?_)
  ·refine Aa (h:=BK (h:=Bj (h:=?_)));refine A4 ?_;exact vi (by rw[Q0 hk hd];exact(Sk hy (by simpa using hc4) ha).symm)
  refine Di (h:=?_);refine⟨_,_,?_,⟨j+1,by omega,rfl,Hu hy ha (by simpa using hc4),rfl⟩,(wk 2 0)⟩;omega
 have e:=CS AU hj hc3;subst e;refine FS (h:=?_);refine A4 ?_;exact vi (by rw[Q0 hk hd];exact(XW (fun i y hi hy=>ha i y hi hy)).symm)
theorem G7(f:AM)(a:A7)(hf:FlsB f):AFn prog 123 [.agg (AW f), .agg (A8 a)] (fun r=>r= .tup [.agg (AU (Ai f a)), .v (.bool (Cm f a))]):=by
 refine enter Tryz.func123 rfl rfl rfl rfl rfl 0 rfl ?_;refine FM (h:=B5 (h:=Bl (h:=?_)));refine A3 rfl (AA (Jp f a hf) ?_);rintro r rfl;refine Bi (h:=BZ (h:=?_));refine A6 rfl (fun hb1 hc1=>?_) (fun hb1 hc1=>?_)
 ·have e:Ba f a=none:=by
   rcases JK f a with h|⟨k,i,d,n, -, -, -, -,h, -⟩
   ·exact h.2
   exfalso;omega
  refine Cf (h:=?_);refine Ag (r:= .tup [.agg (AU (Ai f a)), .v (.bool (Cm f a))]) none (h5:=?_) (h6:=⟨rfl,rfl,rfl⟩);rw[show Ai f a=Nod.zero by simp[Ai,e],show Cm f a=false by simp[Cm,e]];exact(by repeat (first|exact A9 _|exact LeA.nil _|exact LeL.refl _|refine LeA.agg ?_|refine LeA.tup ?_|exact LeL.nil|refine LeL.cons ?_ ?_|exact LeA.any _))
 obtain⟨k,i,d,n,g1,g2,g3,g4,g5,g6⟩:=(JK f a).resolve_left (fun h=>by omega);rw[g5];have hr1:(f.map Bn)[k]?=some (Bn d):=by rw[List.getElem?_map,g2];rfl
 have hr2:(d.nodes.map AU)[i]?=some (AU n):=by rw[List.getElem?_map,g3];rfl
 have hen:=hf.ents d (AT g2) n (AT g3);refine AK (Ah (h:=AN (h:=?_)));refine A3 rfl (EF (n:=k) rfl rfl g1 hr1 ?_);refine AN (h:=m_ (h:=?_));refine A3 rfl (EF (n:=i) rfl rfl rfl hr2 ?_);refine l_ (h:=CY (h:=Ah (h:=?_)))
 first|refine A3 rfl (FJ rfl rfl rfl (by simp;omega) (by repeat constructor) ?_)|refine A3 rfl (GJ rfl rfl (by simp;omega) (by repeat constructor) ?_)
 refine Bm (h:=e_ (D6 (h:=At (h:=?_))));refine A4 ?_;rw[show Ai f a=n by simp[Ai,g6],show Cm f a=true by simp[Cm,g6]];rfl
theorem Hv(f:AM)(a:A7)(hf:FlsB f):AFn prog 185 [.agg (AW f), .agg (A8 a)] (fun r=>r= .v (.bool (AZ f a))):=by
 refine enter Tryz.func185 rfl rfl rfl rfl rfl 0 rfl ?_;refine Dg (h:=Bl (h:=?_));refine A3 rfl (AA (G7 f a hf) ?_);rintro r rfl;refine Dt (h:=BJ (h:=m_ (h:=?_)));refine AF true rfl rfl (fun hb1 hc1=>?_) (fun hb1 hc1=>?_)
 ·refine CW (h:=FN (h:=?_));refine A4 ?_;exact vb (by rw[Jo];simp[*])
 refine Cu (h:=At (h:=?_));refine A4 ?_;exact vb (by rw[Jo];simp[*])
end
end Go.Proofs.YtbgnigjfkbmceaaGreatDoor
namespace Go.Proofs.YtbgnigjfkbmceaaGreatDoor
structure Tst where
 fld:Int
 op:Int
 num:Int
 text:AB
 other:Int
structure Rul where
 list:Int
 action:Int
 calls:Int
 tests:List Tst
 watch:Int
 path:AB
 perm:Int
 key:AB
structure Itm where
 given:AB
 path:AB
 dir:A7
 name:AB
 file:A7
 role:Int
 kind:Int
 mode:Int
 uid:Int
 gid:Int
 perm:Int
structure Ctx where
 phase:Int
 pid:Int
 ppid:Int
 uid:Int
 euid:Int
 gid:Int
 egid:Int
 auid:Int
 ses:Int
 cwd:A7
 comm:AB
 exe:AB
 audited:Bool
 number:Int
 a0:Int
 a1:Int
 a2:Int
 a3:Int
 ext:Int
 items:List Itm
 typ:Int
def Itm.zero:Itm:=⟨⟨#[]⟩,⟨#[]⟩,(0,0),⟨#[]⟩,(0,0),0,0,0,0,0,0⟩
def C8(f:Int):Bool:=decide (1≤f∧f≤8∨f=13∨f=14)
def DV(list f:Int):Bool:=
 if list=1∨list=4 then C8 f
 else if list=2 then decide (1≤f∧f≤14)
 else if list=3 then decide (1≤f∧f≤21)
 else if list=5 then decide (1≤f∧f≤8∨f=13∨f=14∨f=22)
 else false
def DM(f:Int):Bool:=decide (f=13∨f=14)
def DW(f:Int):Bool:=decide (f=3∨f=4∨f=5∨f=6∨f=7∨f=19∨f=20)
def HL(f:Int):Bool:=decide (17≤f∧f≤21)
def B9(t:Tst)(list:Int):Int:=
 if DV list t.fld=false∨t.other≠0∧(DV list t.other=false∨DW t.fld=false∨DW t.other=false)then 120
 else if t.op<1∨8<t.op∨2<t.op∧(DM t.fld=true∨t.other≠0)then 121
 else if t.other≠0∧(t.num≠0∨t.text.size≠0)then 122
 else if DM t.fld=true∧(t.num≠0∨t.text.size=0∨640<t.text.size)then 122
 else if DM t.fld=false∧t.text.size≠0 then 122
 else 0
def Cn(f:Int)(c:Ctx)(y:Itm):Int:=
 if f=1 then c.pid else if f=2 then c.ppid else if f=3 then c.uid else if f=4 then c.euid else if f=5 then c.gid else if f=6 then c.egid
 else if f=7 then c.auid else if f=8 then c.ses else if f=9 then c.a0 else if f=10 then c.a1 else if f=11 then c.a2 else if f=12 then c.a3
 else if f=15 then c.ext else if f=16 then(if 0≤c.ext then 1 else 0)else if f=17 then y.file.2 else if f=18 then y.file.1
 else if f=19 then y.uid else if f=20 then y.gid else if f=21 then y.kind else c.typ
def BW(f:Int)(c:Ctx):Bool:=
 if 1≤f∧f≤12 then true else if f=22 then decide (c.typ≠0)else if 15≤f∧f≤21 then decide (c.phase=2)else false
def GQ(f:Int)(c:Ctx):Bool:=
 if 15≤f∧f≤21 then decide (c.phase=2)else decide (f≠22∨c.typ≠0)
end Go.Proofs.YtbgnigjfkbmceaaGreatDoor
namespace Go.Proofs.YtbgnigjfkbmceaaGreatDoor
open Go.RowKit
def CB(t:Tst):List AV:=[.v (.int .i64 t.fld), .v (.int .i64 t.op), .v (.int .i64 t.num), .v (.string t.text), .v (.int .i64 t.other)]
def AJ(r:Rul):List AV:=[.v (.int .i64 r.list), .v (.int .i64 r.action), .v (.int .u64 r.calls), .sl 5 (r.tests.map CB) none, .v (.int .i64 r.watch), .v (.string r.path), .v (.int .i64 r.perm), .v (.string r.key)]
def EA(y:Itm):List AV:=[.v (.string y.given), .v (.string y.path), .v (.int .i64 y.dir.1), .v (.int .i64 y.dir.2), .v (.string y.name), .v (.int .i64 y.file.1), .v (.int .i64 y.file.2), .v (.int .i64 y.role), .v (.int .i64 y.kind), .v (.int .i64 y.mode), .v (.int .i64 y.uid), .v (.int .i64 y.gid), .v (.int .i64 y.perm)]
structure Cxs where
 os:List (List AV)
 ps:List (List AV)
 rs:List (List AV)
def EB(c:Ctx)(k:Cxs):List AV:=[.v (.int .i64 c.phase), .v (.int .i64 c.pid), .v (.int .i64 c.ppid), .v (.int .i64 c.uid), .v (.int .i64 c.euid), .v (.int .i64 c.gid), .v (.int .i64 c.egid), .v (.int .i64 c.auid), .v (.int .i64 c.ses), .v (.int .i64 c.cwd.1), .v (.int .i64 c.cwd.2), .v (.string c.comm), .v (.string c.exe), .sl 4 k.os none, .v (.bool c.audited),
 .v (.int .i64 c.number), .v (.int .i64 c.a0), .v (.int .i64 c.a1), .v (.int .i64 c.a2), .v (.int .i64 c.a3), .sl 1 k.ps none, .sl 1 k.rs none, .v (.int .i64 c.ext), .sl 13 (c.items.map EA) none, .v (.int .i64 c.typ)]
section
theorem Fn(f:Int):AFn prog 221 [.v (.int .i64 f)] (fun r=>r= .v (.bool (DM f))):=by
 refine enter Tryz.func221 rfl rfl rfl rfl rfl 0 rfl ?_;refine w_ (BJ (h:=DT (h:=?_)));refine AF false rfl rfl (fun hb1 hc1=>?_) (fun hb1 hc1=>?_)
 ·refine B1 (h:=FN (h:=?_));refine A4 ?_;exact vb (by unfold DM;rw[Bool.eq_iff_iff];simp;try omega)
 refine CX (h:=EY (h:=?_));refine A4 ?_;exact vb (by unfold DM;rw[Bool.eq_iff_iff];simp;try omega)
theorem Jq(f:Int):AFn prog 217 [.v (.int .i64 f)] (fun r=>r= .v (.bool (DM f))):=by
 refine enter Tryz.func217 rfl rfl rfl rfl rfl 0 rfl ?_;refine w_ (BJ (h:=DT (h:=?_)));refine AF false rfl rfl (fun hb1 hc1=>?_) (fun hb1 hc1=>?_)
 ·refine B1 (h:=FN (h:=?_));refine A4 ?_;exact vb (by unfold DM;rw[Bool.eq_iff_iff];simp;try omega)
 refine CX (h:=EY (h:=?_));refine A4 ?_;exact vb (by unfold DM;rw[Bool.eq_iff_iff];simp;try omega)
theorem So(f:Int):AFn prog 160 [.v (.int .i64 f)] (fun r=>r= .v (.bool (HL f))):=by
 refine enter Tryz.func160 rfl rfl rfl rfl rfl 0 rfl ?_;refine w_ (BJ (h:=E5 (h:=m_ (h:=?_))));refine AF true rfl rfl (fun hb1 hc1=>?_) (fun hb1 hc1=>?_)
 ·refine m_ (h:=FL (h:=FN (h:=?_)));refine A4 ?_;exact vb (by unfold HL;rw[Bool.eq_iff_iff];simp;try omega)
 refine B1 (h:=EY (h:=?_));refine A4 ?_;exact vb (by unfold HL;rw[Bool.eq_iff_iff];simp;try omega)
theorem Sq(f:Int):AFn prog 220 [.v (.int .i64 f)] (fun r=>r= .v (.bool (DW f))):=by
 refine enter Tryz.func220 rfl rfl rfl rfl rfl 0 rfl ?_;refine w_ (Bi (h:=e_ (BL (q_ (B6 (h:=?_))))));refine A6 rfl (fun hb1 hc1=>?_) (fun hb1 hc1=>?_)
 ·refine AK (Cv (h:=?_));refine A4 ?_;exact vb (by unfold DW;rw[Bool.eq_iff_iff];simp;try omega)
 refine B6 (h:=?_);refine A6 rfl (fun hb2 hc2=>?_) (fun hb2 hc2=>?_)
 ·refine AK (Cv (h:=?_));refine A4 ?_;exact vb (by unfold DW;rw[Bool.eq_iff_iff];simp;try omega)
 refine B6 (h:=?_);refine A6 rfl (fun hb3 hc3=>?_) (fun hb3 hc3=>?_)
 ·refine AK (Cv (h:=?_));refine A4 ?_;exact vb (by unfold DW;rw[Bool.eq_iff_iff];simp;try omega)
 refine B6 (h:=?_);refine A6 rfl (fun hb4 hc4=>?_) (fun hb4 hc4=>?_)
 ·refine AK (Cv (h:=?_));refine A4 ?_;exact vb (by unfold DW;rw[Bool.eq_iff_iff];simp;try omega)
 refine B6 (h:=?_);refine A6 rfl (fun hb5 hc5=>?_) (fun hb5 hc5=>?_)
 ·refine AK (Cv (h:=?_));refine A4 ?_;exact vb (by unfold DW;rw[Bool.eq_iff_iff];simp;try omega)
 refine B6 (h:=?_);refine A6 rfl (fun hb6 hc6=>?_) (fun hb6 hc6=>?_)
 ·refine AK (Cv (h:=?_));refine A4 ?_;exact vb (by unfold DW;rw[Bool.eq_iff_iff];simp;try omega)
 refine B2 (HG (h:=?_));refine A6 rfl (fun hb7 hc7=>?_) (fun hb7 hc7=>?_)
 ·refine Cw (h:=?_);refine A4 ?_;exact vb (by unfold DW;rw[Bool.eq_iff_iff];simp;try omega)
 refine As (Am (EX (h:=?_)));refine A4 ?_;exact vb (by unfold DW;rw[Bool.eq_iff_iff];simp;try omega)
theorem Sr(f:Int):AFn prog 216 [.v (.int .i64 f)] (fun r=>r= .v (.bool (DW f))):=by
 refine enter Tryz.func216 rfl rfl rfl rfl rfl 0 rfl ?_;refine w_ (Bi (h:=e_ (BL (q_ (B6 (h:=?_))))));refine A6 rfl (fun hb1 hc1=>?_) (fun hb1 hc1=>?_)
 ·refine AK (Cv (h:=?_));refine A4 ?_;exact vb (by unfold DW;rw[Bool.eq_iff_iff];simp;try omega)
 refine B6 (h:=?_);refine A6 rfl (fun hb2 hc2=>?_) (fun hb2 hc2=>?_)
 ·refine AK (Cv (h:=?_));refine A4 ?_;exact vb (by unfold DW;rw[Bool.eq_iff_iff];simp;try omega)
 refine B6 (h:=?_);refine A6 rfl (fun hb3 hc3=>?_) (fun hb3 hc3=>?_)
 ·refine AK (Cv (h:=?_));refine A4 ?_;exact vb (by unfold DW;rw[Bool.eq_iff_iff];simp;try omega)
 refine B6 (h:=?_);refine A6 rfl (fun hb4 hc4=>?_) (fun hb4 hc4=>?_)
 ·refine AK (Cv (h:=?_));refine A4 ?_;exact vb (by unfold DW;rw[Bool.eq_iff_iff];simp;try omega)
 refine B6 (h:=?_);refine A6 rfl (fun hb5 hc5=>?_) (fun hb5 hc5=>?_)
 ·refine AK (Cv (h:=?_));refine A4 ?_;exact vb (by unfold DW;rw[Bool.eq_iff_iff];simp;try omega)
 refine B6 (h:=?_);refine A6 rfl (fun hb6 hc6=>?_) (fun hb6 hc6=>?_)
 ·refine AK (Cv (h:=?_));refine A4 ?_;exact vb (by unfold DW;rw[Bool.eq_iff_iff];simp;try omega)
 refine B2 (HG (h:=?_));refine A6 rfl (fun hb7 hc7=>?_) (fun hb7 hc7=>?_)
 ·refine Cw (h:=?_);refine A4 ?_;exact vb (by unfold DW;rw[Bool.eq_iff_iff];simp;try omega)
 refine As (Am (EX (h:=?_)));refine A4 ?_;exact vb (by unfold DW;rw[Bool.eq_iff_iff];simp;try omega)
theorem Ss(list f:Int):AFn prog 219 [.v (.int .i64 list), .v (.int .i64 f)] (fun r=>r= .v (.bool (DV list f))):=by
 refine enter Tryz.func219 rfl rfl rfl rfl rfl 0 rfl ?_;refine Df (h:=?_);refine H9 (⟨look [(0, .v (.int .i64 list)),(1, .v (.int .i64 f)),(5, .v (.bool (C8 f)))],⟨[],[]⟩⟩) ?_ ?_
 ·skip
  refine BV (h:=E5 (h:=m_ (h:=?_)));refine AF true rfl rfl (fun hb1 hc1=>?_) (fun hb1 hc1=>?_)
  ·refine m_ (h:=FL (h:=BY (h:=?_)));refine AF false rfl rfl (fun hb2 hc2=>?_) (fun hb2 hc2=>?_)
   ·refine B1 (h:=BY (h:=B1 (h:=Bc (h:=E8 (h:=?_)))))
    first|(exfalso;first|contradiction|omega)|exact Aj 0 0 rfl rfl rfl rfl (by repeat (first|exact Sub.nil|refine Ak rfl rfl ?_|refine Ao ?_|refine Ap rfl ?_|refine Aq rfl ?_|(apply Sub.of;(focus exact rfl);(focus exact LeA.of_eq (vb (by unfold C8;rw[Bool.eq_iff_iff];simp;try omega)));(focus exact rfl))))
   refine CX (h:=BQ (h:=?_));refine AF false rfl rfl (fun hb3 hc3=>?_) (fun hb3 hc3=>?_)
   ·refine B1 (h:=Bc (h:=E8 (h:=?_)))
    first|(exfalso;first|contradiction|omega)|exact Aj 0 0 rfl rfl rfl rfl (by repeat (first|exact Sub.nil|refine Ak rfl rfl ?_|refine Ao ?_|refine Ap rfl ?_|refine Aq rfl ?_|(apply Sub.of;(focus exact rfl);(focus exact LeA.of_eq (vb (by unfold C8;rw[Bool.eq_iff_iff];simp;try omega)));(focus exact rfl))))
   refine CX (h:=C0 (h:=E8 (h:=?_)))
   first|(exfalso;first|contradiction|omega)|exact Aj 0 0 rfl rfl rfl rfl (by repeat (first|exact Sub.nil|refine Ak rfl rfl ?_|refine Ao ?_|refine Ap rfl ?_|refine Aq rfl ?_|(apply Sub.of;(focus exact rfl);(focus exact LeA.of_eq (vb (by unfold C8;rw[Bool.eq_iff_iff];simp;try omega)));(focus exact rfl))))
  refine B1 (h:=BQ (h:=CX (h:=BQ (h:=?_))));refine AF false rfl rfl (fun hb4 hc4=>?_) (fun hb4 hc4=>?_)
  ·refine B1 (h:=Bc (h:=E8 (h:=?_)))
   (exfalso;first|contradiction|omega)
  refine CX (h:=C0 (h:=E8 (h:=?_)))
  first|(exfalso;first|contradiction|omega)|exact Aj 0 0 rfl rfl rfl rfl (by repeat (first|exact Sub.nil|refine Ak rfl rfl ?_|refine Ao ?_|refine Ap rfl ?_|refine Aq rfl ?_|(apply Sub.of;(focus exact rfl);(focus exact LeA.of_eq (vb (by unfold C8;rw[Bool.eq_iff_iff];simp;try omega)));(focus exact rfl))))
 skip
 refine BD (h:=e_ (BL (q_ (B6 (h:=?_)))));refine A6 rfl (fun hb5 hc5=>?_) (fun hb5 hc5=>?_)
 ·refine AK (Cz (h:=Aa (h:=BK (h:=?_))));refine A4 ?_
  first|(exfalso;first|contradiction|omega)|(exact vb (by unfold DV;unfold C8 at *;simp only[*];(try rw[Bool.eq_iff_iff]);simp at *;try omega))
 refine B2 (HG (h:=?_));refine A6 rfl (fun hb6 hc6=>?_) (fun hb6 hc6=>?_)
 ·refine Aa (h:=BK (h:=?_));refine A4 ?_
  first|(exfalso;first|contradiction|omega)|(exact vb (by unfold DV;unfold C8 at *;simp only[*];(try rw[Bool.eq_iff_iff]);simp at *;try omega))
 refine B6 (h:=?_);refine A6 rfl (fun hb7 hc7=>?_) (fun hb7 hc7=>?_)
 ·refine Aa (h:=E5 (h:=m_ (h:=?_)));refine AF true rfl rfl (fun hb8 hc8=>?_) (fun hb8 hc8=>?_)
  ·refine m_ (h:=FL (h:=Bc (h:=BK (h:=?_))));refine A4 ?_
   first|(exfalso;first|contradiction|omega)|(exact vb (by unfold DV;unfold C8 at *;simp only[*];(try rw[Bool.eq_iff_iff]);simp at *;try omega))
  refine B1 (h:=C0 (h:=BK (h:=?_)));refine A4 ?_
  first|(exfalso;first|contradiction|omega)|(exact vb (by unfold DV;unfold C8 at *;simp only[*];(try rw[Bool.eq_iff_iff]);simp at *;try omega))
 refine B6 (h:=?_);refine A6 rfl (fun hb9 hc9=>?_) (fun hb9 hc9=>?_)
 ·refine Aa (h:=E5 (h:=m_ (h:=?_)));refine AF true rfl rfl (fun hb10 hc10=>?_) (fun hb10 hc10=>?_)
  ·refine m_ (h:=FL (h:=Bc (h:=BK (h:=?_))));refine A4 ?_
   first|(exfalso;first|contradiction|omega)|(exact vb (by unfold DV;unfold C8 at *;simp only[*];(try rw[Bool.eq_iff_iff]);simp at *;try omega))
  refine B1 (h:=C0 (h:=BK (h:=?_)));refine A4 ?_
  first|(exfalso;first|contradiction|omega)|(exact vb (by unfold DV;unfold C8 at *;simp only[*];(try rw[Bool.eq_iff_iff]);simp at *;try omega))
 refine B6 (h:=?_);refine A6 rfl (fun hb11 hc11=>?_) (fun hb11 hc11=>?_)
 ·refine EJ (h:=?_);refine AF false rfl rfl (fun hb12 hc12=>?_) (fun hb12 hc12=>?_)
  ·refine B1 (h:=Bc (h:=BK (h:=?_)));refine A4 ?_
   first|(exfalso;first|contradiction|omega)|(exact vb (by unfold DV;unfold C8 at *;simp only[*];(try rw[Bool.eq_iff_iff]);simp at *;try omega))
  refine CX (h:=C0 (h:=BK (h:=?_)));refine A4 ?_
  first|(exfalso;first|contradiction|omega)|(exact vb (by unfold DV;unfold C8 at *;simp only[*];(try rw[Bool.eq_iff_iff]);simp at *;try omega))
 refine As (Am (EX (h:=?_)));refine A4 ?_
 first|(exfalso;first|contradiction|omega)|(exact vb (by unfold DV;unfold C8 at *;simp only[*];(try rw[Bool.eq_iff_iff]);simp at *;try omega))
theorem Su(list f:Int):AFn prog 215 [.v (.int .i64 list), .v (.int .i64 f)] (fun r=>r= .v (.bool (DV list f))):=by
 refine enter Tryz.func215 rfl rfl rfl rfl rfl 0 rfl ?_;refine w_ (Bi (h:=DS (h:=?_)));refine AF false rfl rfl (fun hb1 hc1=>?_) (fun hb1 hc1=>?_)
 ·refine B1 (h:=F8 (h:=?_));refine A4 ?_
  first|(exfalso;first|contradiction|omega)|(exact vb (by unfold DV C8;(repeat' split)<;>(try rw[Bool.eq_iff_iff])<;>(try simp)<;>(first|omega|(unfold C8 at *;simp only[decide_eq_true_eq,decide_eq_false_iff_not]at *;omega)|skip)))
 refine m_ (h:=Fk (h:=C1 (h:=?_)));refine A6 rfl (fun hb2 hc2=>?_) (fun hb2 hc2=>?_)
 ·refine Bd (h:=?_);refine A4 ?_
  first|(exfalso;first|contradiction|omega)|(exact vb (by unfold DV C8;(repeat' split)<;>(try rw[Bool.eq_iff_iff])<;>(try simp)<;>(first|omega|(unfold C8 at *;simp only[decide_eq_true_eq,decide_eq_false_iff_not]at *;omega)|skip)))
 refine AK (?_);refine H9 (⟨look [(0, .v (.int .i64 list)),(1, .v (.int .i64 f)),(5, .v (.bool (C8 f)))],⟨[],[]⟩⟩) ?_ ?_
 ·skip
  refine BV (h:=FL (h:=m_ (h:=?_)));refine AF false rfl rfl (fun hb3 hc3=>?_) (fun hb3 hc3=>?_)
  ·refine B1 (h:=BY (h:=B1 (h:=Bc (h:=E8 (h:=?_)))))
   first|(exfalso;first|contradiction|omega)|exact Aj 0 0 rfl rfl rfl rfl (by repeat (first|exact Sub.nil|refine Ak rfl rfl ?_|refine Ao ?_|refine Ap rfl ?_|refine Aq rfl ?_|(apply Sub.of;(focus exact rfl);(focus exact LeA.of_eq (vb (by unfold C8;rw[Bool.eq_iff_iff];simp;try omega)));(focus exact rfl))))
  refine CX (h:=BQ (h:=?_));refine AF false rfl rfl (fun hb4 hc4=>?_) (fun hb4 hc4=>?_)
  ·refine B1 (h:=Bc (h:=E8 (h:=?_)))
   first|(exfalso;first|contradiction|omega)|exact Aj 0 0 rfl rfl rfl rfl (by repeat (first|exact Sub.nil|refine Ak rfl rfl ?_|refine Ao ?_|refine Ap rfl ?_|refine Aq rfl ?_|(apply Sub.of;(focus exact rfl);(focus exact LeA.of_eq (vb (by unfold C8;rw[Bool.eq_iff_iff];simp;try omega)));(focus exact rfl))))
  refine CX (h:=C0 (h:=E8 (h:=?_)))
  first|(exfalso;first|contradiction|omega)|exact Aj 0 0 rfl rfl rfl rfl (by repeat (first|exact Sub.nil|refine Ak rfl rfl ?_|refine Ao ?_|refine Ap rfl ?_|refine Aq rfl ?_|(apply Sub.of;(focus exact rfl);(focus exact LeA.of_eq (vb (by unfold C8;rw[Bool.eq_iff_iff];simp;try omega)));(focus exact rfl))))
 skip
 refine BD (h:=e_ (BL (q_ (B6 (h:=?_)))));refine A6 rfl (fun hb5 hc5=>?_) (fun hb5 hc5=>?_)
 ·refine AK (Cz (h:=Aa (h:=BK (h:=?_))));refine A4 ?_
  first|(exfalso;first|contradiction|omega)|(exact vb (by unfold DV C8;(repeat' split)<;>(try rw[Bool.eq_iff_iff])<;>(try simp)<;>(first|omega|(unfold C8 at *;simp only[decide_eq_true_eq,decide_eq_false_iff_not]at *;omega)|skip)))
 refine B2 (HG (h:=?_));refine A6 rfl (fun hb6 hc6=>?_) (fun hb6 hc6=>?_)
 ·refine Aa (h:=BK (h:=?_));refine A4 ?_
  first|(exfalso;first|contradiction|omega)|(exact vb (by unfold DV C8;(repeat' split)<;>(try rw[Bool.eq_iff_iff])<;>(try simp)<;>(first|omega|(unfold C8 at *;simp only[decide_eq_true_eq,decide_eq_false_iff_not]at *;omega)|skip)))
 refine B6 (h:=?_);refine A6 rfl (fun hb7 hc7=>?_) (fun hb7 hc7=>?_)
 ·refine Aa (h:=FL (h:=BK (h:=?_)));refine A4 ?_
  first|(exfalso;first|contradiction|omega)|(exact vb (by unfold DV C8;(repeat' split)<;>(try rw[Bool.eq_iff_iff])<;>(try simp)<;>(first|omega|(unfold C8 at *;simp only[decide_eq_true_eq,decide_eq_false_iff_not]at *;omega)|skip)))
 refine B6 (h:=?_);refine A6 rfl (fun hb8 hc8=>?_) (fun hb8 hc8=>?_)
 ·refine Aa (h:=Hs (h:=BK (h:=?_)));refine A4 ?_
  first|(exfalso;first|contradiction|omega)|(exact vb (by unfold DV C8;(repeat' split)<;>(try rw[Bool.eq_iff_iff])<;>(try simp)<;>(first|omega|(unfold C8 at *;simp only[decide_eq_true_eq,decide_eq_false_iff_not]at *;omega)|skip)))
 refine B6 (h:=?_);refine A6 rfl (fun hb9 hc9=>?_) (fun hb9 hc9=>?_)
 ·refine EJ (h:=?_);refine AF false rfl rfl (fun hb10 hc10=>?_) (fun hb10 hc10=>?_)
  ·refine B1 (h:=Bc (h:=BK (h:=?_)));refine A4 ?_
   first|(exfalso;first|contradiction|omega)|(exact vb (by unfold DV C8;(repeat' split)<;>(try rw[Bool.eq_iff_iff])<;>(try simp)<;>(first|omega|(unfold C8 at *;simp only[decide_eq_true_eq,decide_eq_false_iff_not]at *;omega)|skip)))
  refine CX (h:=C0 (h:=BK (h:=?_)));refine A4 ?_
  first|(exfalso;first|contradiction|omega)|(exact vb (by unfold DV C8;(repeat' split)<;>(try rw[Bool.eq_iff_iff])<;>(try simp)<;>(first|omega|(unfold C8 at *;simp only[decide_eq_true_eq,decide_eq_false_iff_not]at *;omega)|skip)))
 refine As (Am (EX (h:=?_)));refine A4 ?_
 first|(exfalso;first|contradiction|omega)|(exact vb (by unfold DV C8;(repeat' split)<;>(try rw[Bool.eq_iff_iff])<;>(try simp)<;>(first|omega|(unfold C8 at *;simp only[decide_eq_true_eq,decide_eq_false_iff_not]at *;omega)|skip)))
end
end Go.Proofs.YtbgnigjfkbmceaaGreatDoor
