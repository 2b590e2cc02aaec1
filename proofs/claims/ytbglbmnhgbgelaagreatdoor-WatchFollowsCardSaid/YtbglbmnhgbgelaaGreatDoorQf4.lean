/-
  Part 4 of the proof of WatchFollowsP: what the statement's proof uses of the texts in wip/tpl.
-/
import Derived.WalkKit
import Derived.Test.YtbglbmnhgbgelaaGreatDoorQf3
open Go.Proofs.Tryz (prog)
set_option maxRecDepth 10000
set_option maxHeartbeats 4000000
set_option linter.unusedVariables false
set_option linter.unusedSimpArgs false
namespace Go.Proofs.YtbglbmnhgbgelaaGreatDoor
open Go.RowKit
section
variable {P:Program}{N:Dim}{Q:Exit→AS→Prop}{s:AS}
def AC(P:Program)(N:Dim)(y:Code)(Q:Exit→AS→Prop)(s:AS):Prop:=C6 P N y Q s
theorem q_{x y:Code}(h:C6 P N x (Ge (AC P N y Q) Q) s):C6 P N (.seq x y) Q s:=by
 intro E a w hr;refine wp_seq (wp_mono (h E a w hr) ?_);rintro e a' w' ⟨s',hq,hr'⟩
 cases e with
 |normal=>exact hq E a' w' hr'
 |exit id=>exact⟨s',hq,hr'⟩
 |goto l=>exact⟨s',hq,hr'⟩
 |ret=>exact⟨s',hq,hr'⟩
 |panic c=>exact⟨s',hq,hr'⟩
 |outgrown=>exact⟨s',hq,hr'⟩
theorem w_{id:Nat}{l:List Oper}{y:Code}(h:AL P N l.toArray (Ge (AC P N y Q) Q) l s):C6 P N (.seq (.region id l.toArray false) y) Q s:=q_ (AQ h)
theorem t_{y:Code}(h:C6 P N y Q s):Ge (AC P N y Q) Q .normal s:=h
theorem e_{ops:Array Oper}{y:Code}(h:C6 P N y Q s):AL P N ops (Ge (AC P N y Q) Q) [] s:=AP h
theorem AN{y:Code}(h:C6 P N y Q s):C6 P N .skip (Ge (AC P N y Q) Q) s:=BM h
theorem C2{c:Operand}{x y:Code}{t:Bool}(hc:CE s.sl c=some (.v (.bool t)):=by rfl)(ht:t=true:=by first|rfl|assumption|simp[*])(h:C6 P N x Q s):C6 P N (.cond c x y) Q s:=YU hc ht h
theorem GJ{c:Operand}{x y:Code}{t:Bool}(hc:CE s.sl c=some (.v (.bool t)):=by rfl)(ht:t=false:=by first|rfl|assumption|simp[*])(h:C6 P N y Q s):C6 P N (.cond c x y) Q s:=YV hc ht h
end
section
variable {P:Program}{N:Dim}{Q:Exit→AS→Prop}{ops:Array Oper}{rest:List Oper}{l:List (Nat×AV)}{hh:AH}{op:Op}{ty:TypeId}{pos:String}{af:Array Edge}
theorem A3{d j:Nat}{want t:Bool}(hd:Nat.blt d N.n=true:=by rfl)(hy:yv ops (look l) j=some (some t):=by rfl)(ht:(t==want)=false:=by first|rfl|exact T8 ‹_›|exact T9 ‹_›|simp[*])(h:AL P N ops Q rest ⟨look ((d, .v undef)::l),hh⟩):AL P N ops Q (⟨some d,op,ty,pos,af,some (j,want)⟩::rest) ⟨look l,hh⟩:=YW hd hy ht h
theorem Cz{d j:Nat}{want:Bool}(hd:Nat.blt d N.n=true:=by rfl)(hy:yv ops (look l) j=some none:=by rfl)(h:AL P N ops Q rest ⟨look ((d, .v undef)::l),hh⟩):AL P N ops Q (⟨some d,op,ty,pos,af,some (j,want)⟩::rest) ⟨look l,hh⟩:=YX hd hy h
end
def KB:List (Nat×List AV)→AH→Prop
 |[],_=>True
 |(i,r)::l,h=>h.bx[i]?=some r∧KB l h
def QD:List (Nat×List AV)→Nat→Option (List AV)
 |[],_=>none
 |(i,r)::l,j=>match Nat.beq i j with
   |true=>some r
   |false=>QD l j
theorem kb:∀{l:List (Nat×List AV)} {h:AH} {i:Nat} {row:List AV},KB l h→QD l i=some row→h.bx[i]?=some row
 |[],_,_,_,_,e=>by cases e
 |(j,r)::l,h,i,row,k,e=>by
   unfold QD at e;split at e
   ·rename_i hb;have:=Nat.eq_of_beq_eq_true hb;subst this;injection e with e;subst e;exact k.1
   exact kb k.2 e
theorem MY(h:AH):KB [] h:=trivial
theorem MZ{l:List (Nat×List AV)}{h:AH}{i:Nat}{r:List AV}(h1:h.bx[i]?=some r)(h2:KB l h):KB ((i,r)::l) h:=⟨h1,h2⟩
def Do(_i:Nat)(B A:Prop):Prop:=B→A
section
variable {P:Program}{N:Dim}{l:List Oper}{Q:Exit→AS→Prop}{S:AH→Prop}{tl fuel:Nat}{listed:Array Bool}{m:List (Nat×AV)}{hh:AH}{op:Op}{ty:TypeId}{pos:String}{af:Array Edge}{gd:Option (Nat×Bool)}
theorem DA{i d:Nat}{x:AV}(hi:l[i]?=some ⟨some d,op,ty,pos,af,gd⟩)(hst:AStep P ⟨some d,op,ty,pos,af,gd⟩ (CE (look m)) hh (fun x' h'=>x'=x∧h'=hh))(hd:Nat.blt d N.n=true:=by rfl)(htl:(Hr l.toArray tl listed&& !Nat.ble tl i&&Region.free .any l.toArray listed i&&(Region.ready .any l.toArray listed).contains i)=true:=by kernel_rfl)
    (hw:CX l.toArray (look m) ⟨some d,op,ty,pos,af,gd⟩=some true:=by first|rfl|exact Ap rfl rfl (C0 ‹_›)|exact Ap rfl rfl (C1 ‹_›)|exact Ap rfl rfl (by simp[*])):
    Do i (AAny P N l.toArray Q (fun h'=>h'=hh) tl fuel (listed.setIfInBounds i true) ⟨look ((d,x)::m),hh⟩) (AAny P N l.toArray Q (fun h'=>h'=hh) tl (fuel+1) listed ⟨look m,hh⟩):=fun H=>Si hi hd htl hw hst H
theorem DC{K:List (Nat×List AV)}{i d:Nat}{x:AV}(hi:l[i]?=some ⟨some d,op,ty,pos,af,gd⟩)(hst:∀h,KB K h→AStep P ⟨some d,op,ty,pos,af,gd⟩ (CE (look m)) h (fun x' h'=>x'=x∧h'=h))(hd:Nat.blt d N.n=true:=by rfl)(htl:(Hr l.toArray tl listed&& !Nat.ble tl i&&Region.free .any l.toArray listed i&&(Region.ready .any l.toArray listed).contains i)=true:=by kernel_rfl)
    (hw:CX l.toArray (look m) ⟨some d,op,ty,pos,af,gd⟩=some true:=by first|rfl|exact Ap rfl rfl (C0 ‹_›)|exact Ap rfl rfl (C1 ‹_›)|exact Ap rfl rfl (by simp[*])) (hS:KB K hh:=by repeat (first|exact MY _|refine MZ rfl ?_)):
    Do i (AAny P N l.toArray Q (KB K) tl fuel (listed.setIfInBounds i true) ⟨look ((d,x)::m),hh⟩) (AAny P N l.toArray Q (KB K) tl (fuel+1) listed ⟨look m,hh⟩):=fun H=>CQ hi hd htl hw hst hS H
theorem Bz{K:List (Nat×List AV)}(i:Nat){d:Nat}{x:AV}(hi:l[i]?=some ⟨some d,op,ty,pos,af,gd⟩)(hst:∀h,KB K h→AStep P ⟨some d,op,ty,pos,af,gd⟩ (CE (look m)) h (fun x' h'=>x'=x∧h'=h))(H:AAny P N l.toArray Q (KB K) tl fuel (listed.setIfInBounds i true) ⟨look ((d,x)::m),hh⟩)(hd:Nat.blt d N.n=true:=by rfl)(htl:(Hr l.toArray tl listed&& !Nat.ble tl i&&Region.free .any l.toArray listed i&&(Region.ready .any l.toArray listed).contains i)=true:=by kernel_rfl)
    (hw:CX l.toArray (look m) ⟨some d,op,ty,pos,af,gd⟩=some true:=by first|rfl|exact Ap rfl rfl (C0 ‹_›)|exact Ap rfl rfl (C1 ‹_›)|exact Ap rfl rfl (by simp[*])) (hS:KB K hh:=by repeat (first|exact MY _|refine MZ rfl ?_)):AAny P N l.toArray Q (KB K) tl (fuel+1) listed ⟨look m,hh⟩:=CQ hi hd htl hw hst hS H
theorem Bh(i:Nat){d:Nat}(hi:l[i]?=some ⟨some d,op,ty,pos,af,gd⟩:=by rfl)(hd:Nat.blt d N.n=true:=by rfl)(htl:(Hr l.toArray tl listed&& !Nat.ble tl i&&Region.free .any l.toArray listed i&&(Region.ready .any l.toArray listed).contains i)=true:=by kernel_rfl)
    (hw:CX l.toArray (look m) ⟨some d,op,ty,pos,af,gd⟩=some false:=by first|rfl|exact Pi rfl rfl (T8 ‹_›)|exact Pi rfl rfl (T9 ‹_›)|exact Y6 rfl rfl|exact Pi rfl rfl (by simp[*]))
    (hS:S hh:=by first|rfl|(repeat (first|exact MY _|refine MZ rfl ?_))) (h:AAny P N l.toArray Q S tl fuel (listed.setIfInBounds i true) ⟨look ((d, .v undef)::m),hh⟩):AAny P N l.toArray Q S tl (fuel+1) listed ⟨look m,hh⟩:=Y1 hi hd htl hw hS h
theorem c_(i:Nat){d:Nat}(hi:l[i]?=some ⟨some d,op,ty,pos,af,gd⟩)(H:AStep P ⟨some d,op,ty,pos,af,gd⟩ (CE (look m)) hh (fun x h'=>(Nat.ble tl i=true∨S h')∧AAny P N l.toArray Q S tl fuel (listed.setIfInBounds i true) ⟨look ((d,x)::m),h'⟩))(hd:Nat.blt d N.n=true:=by rfl)(hr:Region.ready .any l.toArray listed=[i]:=by kernel_rfl)
    (hw:CX l.toArray (look m) ⟨some d,op,ty,pos,af,gd⟩=some true:=by first|rfl|exact Ap rfl rfl (C0 ‹_›)|exact Ap rfl rfl (C1 ‹_›)|exact Ap rfl rfl (by simp[*])):AAny P N l.toArray Q S tl (fuel+1) listed ⟨look m,hh⟩:=Y2 hi hd hr hw H
theorem Aj(i:Nat)(hi:l[i]?=some ⟨none,op,ty,pos,af,gd⟩)(H:AStep P ⟨none,op,ty,pos,af,gd⟩ (CE (look m)) hh (fun _ h'=>(Nat.ble tl i=true∨S h')∧AAny P N l.toArray Q S tl fuel (listed.setIfInBounds i true) ⟨look m,h'⟩))(hr:Region.ready .any l.toArray listed=[i]:=by kernel_rfl)
    (hw:CX l.toArray (look m) ⟨none,op,ty,pos,af,gd⟩=some true:=by first|rfl|exact Ap rfl rfl (C0 ‹_›)|exact Ap rfl rfl (C1 ‹_›)|exact Ap rfl rfl (by simp[*])):AAny P N l.toArray Q S tl (fuel+1) listed ⟨look m,hh⟩:=Y3 hi hr hw H
theorem Co(i j:Nat){di dj:Nat}{op':Op}{ty':TypeId}{pos':String}{af':Array Edge}{gd':Option (Nat×Bool)}(hi:l[i]?=some ⟨some di,op,ty,pos,af,gd⟩)(hj:l[j]?=some ⟨some dj,op',ty',pos',af',gd'⟩)
    (H1:AStep P ⟨some di,op,ty,pos,af,gd⟩ (CE (look m)) hh (fun x h'=>(Nat.ble tl i=true∨S h')∧AAny P N l.toArray Q S tl fuel (listed.setIfInBounds i true) ⟨look ((di,x)::m),h'⟩))
    (H2:AStep P ⟨some dj,op',ty',pos',af',gd'⟩ (CE (look m)) hh (fun x h'=>(Nat.ble tl j=true∨S h')∧AAny P N l.toArray Q S tl fuel (listed.setIfInBounds j true) ⟨look ((dj,x)::m),h'⟩))
    (hdi:Nat.blt di N.n=true:=by rfl) (hdj:Nat.blt dj N.n=true:=by rfl) (hr:Region.ready .any l.toArray listed=[i,j]:=by kernel_rfl)
    (hwi:CX l.toArray (look m) ⟨some di,op,ty,pos,af,gd⟩=some true:=by first|rfl|exact Ap rfl rfl (C0 ‹_›)|exact Ap rfl rfl (C1 ‹_›)|exact Ap rfl rfl (by simp[*]))
    (hwj:CX l.toArray (look m) ⟨some dj,op',ty',pos',af',gd'⟩=some true:=by first|rfl|exact Ap rfl rfl (C0 ‹_›)|exact Ap rfl rfl (C1 ‹_›)|exact Ap rfl rfl (by simp[*])):AAny P N l.toArray Q S tl (fuel+1) listed ⟨look m,hh⟩:=Yk hr hi hdi hwi hj hdj hwj H1 H2
def AllO(P:Program)(N:Dim)(l:List Oper)(Q:Exit→AS→Prop)(S:AH→Prop)(tl fuel:Nat)(listed:Array Bool)(s:AS):List Nat→Prop
 |[]=>True
 |i::is=>AOp P N l.toArray i (fun s'=>(Nat.ble tl i=true∨S s'.h)∧AAny P N l.toArray Q S tl fuel (listed.setIfInBounds i true) s') s∧AllO P N l Q S tl fuel listed s is
theorem AllO.get{s:AS}{i:Nat}:∀{is:List Nat},AllO P N l Q S tl fuel listed s is→i∈is→AOp P N l.toArray i (fun s'=>(Nat.ble tl i=true∨S s'.h)∧AAny P N l.toArray Q S tl fuel (listed.setIfInBounds i true) s') s
 |[],_,h=>by cases h
 |j::is,k,h=>by
   rcases List.mem_cons.1 h with e|e
   ·subst e;exact k.1
   exact AllO.get k.2 e
theorem QE(i:Nat){is:List Nat}{s:AS}(H:AllO P N l Q S tl fuel listed s (i::is))(hr:Region.ready .any l.toArray listed=i::is:=by kernel_rfl):AAny P N l.toArray Q S tl (fuel+1) listed s:=
 ⟨(fun h0=>by rw[hr]at h0;cases h0),fun j hj=>H.get (by rw[←hr];exact hj)⟩
theorem JH(i:Nat){d:Nat}{is:List Nat}(hi:l[i]?=some ⟨some d,op,ty,pos,af,gd⟩)(H:AStep P ⟨some d,op,ty,pos,af,gd⟩ (CE (look m)) hh (fun x h'=>(Nat.ble tl i=true∨S h')∧AAny P N l.toArray Q S tl fuel (listed.setIfInBounds i true) ⟨look ((d,x)::m),h'⟩))(R:AllO P N l Q S tl fuel listed ⟨look m,hh⟩ is)(hd:Nat.blt d N.n=true:=by rfl)
    (hw:CX l.toArray (look m) ⟨some d,op,ty,pos,af,gd⟩=some true:=by first|rfl|exact Ap rfl rfl (C0 ‹_›)|exact Ap rfl rfl (C1 ‹_›)|exact Ap rfl rfl (by simp[*])):AllO P N l Q S tl fuel listed ⟨look m,hh⟩ (i::is):=by
 refine⟨?_,R⟩;unfold AOp;simp only[HG hi];exact⟨hd,true,hw,fun _=>H,fun h=>by cases h⟩
theorem QF{s:AS}:AllO P N l Q S tl fuel listed s []:=trivial
theorem o_{i:Nat}{A:Prop}{h':AH}(hS:Nat.ble tl i=true∨S h':=by first|exact .inl rfl|exact .inr rfl|exact .inr (by repeat (first|exact MY _|refine MZ rfl ?_)))(h:A):(Nat.ble tl i=true∨S h')∧A:=⟨hS,h⟩
theorem z_(hr:Region.ready .any l.toArray listed=[]:=by kernel_rfl)(h:Q .normal ⟨look m,hh⟩):AAny P N l.toArray Q S tl fuel listed ⟨look m,hh⟩:=Y5 hr h fuel
theorem E4(tl:Nat){id:Nat}(hm:P.follows .mixedOrders=true:=by kernel_rfl)(h:AAny P N l.toArray Q (fun h'=>h'=hh) tl l.length (Array.replicate l.length false) ⟨look m,hh⟩):C6 P N (.region id l.toArray true) Q ⟨look m,hh⟩:=Y4 tl hm h
theorem BO(K:List (Nat×List AV))(tl:Nat){id:Nat}(hm:P.follows .mixedOrders=true:=by kernel_rfl)(h:AAny P N l.toArray Q (KB K) tl l.length (Array.replicate l.length false) ⟨look m,hh⟩):C6 P N (.region id l.toArray true) Q ⟨look m,hh⟩:=L6 _ tl hm h
end
section
variable {P:Program}{rs:List ResultVar}{n:Nat}{R:AV→List (List AV)→List Cj→Prop}{s:AS}{xs:List AV}{r:AV}
theorem Am(g:Option Nat){tk':List Cj}(h1:ResA P s rs xs:=by repeat (first|exact ResA.nil|(apply ResA.tmp;(focus exact rfl))|(apply ResA.cellN;(focus exact inferInstance);(focus exact rfl);(focus exact rfl);(focus exact rfl))|(apply ResA.cell1;(focus exact inferInstance);(focus exact rfl);(focus exact rfl);(focus exact rfl))))(h2:Jq s.h.tk g=some tk':=by rfl)(h3:Ab n 1 (De g (El xs))=true:=by rfl)(h4:Ai n 0 (s.h.bx.take n)=true:=by rfl)(h5:LeA (De g (El xs)) r)(h6:R r (s.h.bx.take n) tk'):Jr P rs n R .ret s:=Q0 g h1 h2 h3 h4 h5 h6
theorem OQ(g:Option Nat){tk':List Cj}(h1:ResA P s rs xs:=by repeat (first|exact ResA.nil|(apply ResA.tmp;(focus exact rfl))|(apply ResA.cellN;(focus exact inferInstance);(focus exact rfl);(focus exact rfl);(focus exact rfl))|(apply ResA.cell1;(focus exact inferInstance);(focus exact rfl);(focus exact rfl);(focus exact rfl))))(h2:Jq s.h.tk g=some tk':=by rfl)(h3:Ab n 1 (De g (El xs))=true:=by rfl)(h4:Ai n 0 (s.h.bx.take n)=true:=by rfl)(h5:LeA (De g (El xs)) r)(h6:R r (s.h.bx.take n) tk'):Jr P rs n R .normal s:=YN g h1 h2 h3 h4 h5 h6
end
theorem m_{A B:Prop}(k:B→A:=by intro b;first|exact A6 rfl (FT rfl b)|exact BB (FT rfl b))(h:B):A:=k h
theorem AO(i:Nat){A B:Prop}(k:Do i B A:=by first|exact DA rfl (FT rfl ⟨rfl,rfl⟩)|exact DC rfl (fun _ _=>FT rfl ⟨rfl,rfl⟩))(h:B):A:=k h
theorem a_{A B:Prop}(k:B→A:=by intro b;first|exact A6 rfl (Fe rfl b)|exact BB (Fe rfl b))(h:B):A:=k h
theorem BK(i:Nat){A B:Prop}(k:Do i B A:=by first|exact DA rfl (Fe rfl ⟨rfl,rfl⟩)|exact DC rfl (fun _ _=>Fe rfl ⟨rfl,rfl⟩))(h:B):A:=k h
theorem f_{A B:Prop}(k:B→A:=by intro b;first|exact A6 rfl (FD rfl b)|exact A6 rfl (Nr rfl b)|exact BB (FD rfl b)|exact BB (Nr rfl b))(h:B):A:=k h
theorem AG(i:Nat){A B:Prop}(k:Do i B A:=by first|exact DA rfl (FD rfl ⟨rfl,rfl⟩)|exact DA rfl (Nr rfl ⟨rfl,rfl⟩)|exact DC rfl (fun _ _=>FD rfl ⟨rfl,rfl⟩)|exact DC rfl (fun _ _=>Nr rfl ⟨rfl,rfl⟩))(h:B):A:=k h
theorem l_{A B:Prop}(k:B→A:=by intro b;first|exact A6 rfl (DK rfl rfl rfl b)|exact A6 rfl (GE rfl rfl rfl b)|exact A6 rfl (KK rfl rfl b)|exact A6 rfl (MF rfl rfl b)|exact A6 rfl (Fo rfl rfl rfl b)|exact A6 rfl (ME rfl rfl b)|exact BB (DK rfl rfl rfl b)|exact BB (GE rfl rfl rfl b)|exact BB (KK rfl rfl b)|exact BB (MF rfl rfl b)|exact BB (Fo rfl rfl rfl b)|exact BB (ME rfl rfl b))(h:B):A:=k h
theorem AM(i:Nat){A B:Prop}(k:Do i B A:=by first|exact DA rfl (DK rfl rfl rfl ⟨rfl,rfl⟩)|exact DA rfl (GE rfl rfl rfl ⟨rfl,rfl⟩)|exact DA rfl (KK rfl rfl ⟨rfl,rfl⟩)|exact DA rfl (MF rfl rfl ⟨rfl,rfl⟩)|exact DA rfl (Fo rfl rfl rfl ⟨rfl,rfl⟩)|exact DA rfl (ME rfl rfl ⟨rfl,rfl⟩)|exact DC rfl (fun _ hS=>DK rfl (kb hS rfl) rfl ⟨rfl,rfl⟩)|exact DC rfl (fun _ hS=>GE rfl (kb hS rfl) rfl ⟨rfl,rfl⟩)|exact DC rfl (fun _ _=>KK rfl rfl ⟨rfl,rfl⟩)|exact DC rfl (fun _ _=>MF rfl rfl ⟨rfl,rfl⟩)|exact DC rfl (fun _ hS=>Fo rfl (kb hS rfl) rfl ⟨rfl,rfl⟩)|exact DC rfl (fun _ _=>ME rfl rfl ⟨rfl,rfl⟩))(h:B):A:=k h
theorem s_{A B:Prop}(k:B→A:=by intro b;exact KQ (Af rfl rfl rfl rfl rfl rfl (by repeat constructor) (by repeat constructor) b))(h:B):A:=k h
theorem b_{A B:Prop}(k:B→A:=by intro b;first|exact A6 rfl (MQ rfl rfl (by repeat constructor) b)|exact A6 rfl (TA rfl rfl (by repeat constructor) b)|exact BB (MQ rfl rfl (by repeat constructor) b)|exact BB (TA rfl rfl (by repeat constructor) b))(h:B):A:=k h
theorem AZ{A B:Prop}(k:B→A:=by intro b;first|exact A6 rfl (BQ (by repeat constructor) b)|exact BB (BQ (by repeat constructor) b))(h:B):A:=k h
theorem n_{A B:Prop}(k:B→A:=by intro b;first|exact A6 rfl (O4 rfl b)|exact A6 rfl (O3 (by kernel_rfl) rfl b)|exact A6 rfl (O5 rfl b)|exact BB (O4 rfl b)|exact BB (O3 (by kernel_rfl) rfl b)|exact BB (O5 rfl b))(h:B):A:=k h
theorem KV(i:Nat){A B:Prop}(k:Do i B A:=by first|exact DA rfl (O4 rfl ⟨rfl,rfl⟩)|exact DA rfl (O3 (by kernel_rfl) rfl ⟨rfl,rfl⟩)|exact DA rfl (O5 rfl ⟨rfl,rfl⟩)|exact DC rfl (fun _ _=>O4 rfl ⟨rfl,rfl⟩)|exact DC rfl (fun _ _=>O3 (by kernel_rfl) rfl ⟨rfl,rfl⟩)|exact DC rfl (fun _ _=>O5 rfl ⟨rfl,rfl⟩))(h:B):A:=k h
theorem JJ{A B:Prop}(k:B→A:=by intro b;first|exact A6 rfl (EO rfl rfl rfl (by simp<;>omega) (by repeat constructor) b)|exact A6 rfl (JF rfl rfl (by simp<;>omega) (by repeat constructor) b)|exact BB (EO rfl rfl rfl (by simp<;>omega) (by repeat constructor) b)|exact BB (JF rfl rfl (by simp<;>omega) (by repeat constructor) b))(h:B):A:=k h
theorem x_{A B:Prop}(k:B→A:=by intro b;first|exact A6 rfl (Np rfl rfl b)|exact BB (Np rfl rfl b))(h:B):A:=k h
theorem Au(i:Nat){A B:Prop}(k:Do i B A:=by first|exact DA rfl (Np rfl rfl ⟨rfl,rfl⟩)|exact DC rfl (fun _ _=>Np rfl rfl ⟨rfl,rfl⟩))(h:B):A:=k h
theorem k_{A B:Prop}(k:B→A:=by intro b;first|exact A6 rfl (Hs rfl b)|exact A6 rfl (Nq rfl b)|exact BB (Hs rfl b)|exact BB (Nq rfl b))(h:B):A:=k h
theorem BC(i:Nat){A B:Prop}(k:Do i B A:=by first|exact DA rfl (Hs rfl ⟨rfl,rfl⟩)|exact DA rfl (Nq rfl ⟨rfl,rfl⟩)|exact DC rfl (fun _ _=>Hs rfl ⟨rfl,rfl⟩)|exact DC rfl (fun _ _=>Nq rfl ⟨rfl,rfl⟩))(h:B):A:=k h
theorem AX{A B:Prop}(k:B→A:=by intro b;first|exact A6 rfl (MK (by repeat (first|exact FillA.nil _|(apply FillA.cons;(focus exact rfl);(focus exact rfl);(focus exact rfl);(focus exact rfl);(focus exact rfl);(focus (repeat constructor))))) b)|exact BB (MK (by repeat (first|exact FillA.nil _|(apply FillA.cons;(focus exact rfl);(focus exact rfl);(focus exact rfl);(focus exact rfl);(focus exact rfl);(focus (repeat constructor))))) b))(h:B):A:=k h
theorem Hb(i:Nat){A B:Prop}(k:Do i B A:=by first|exact DA rfl (MK (by repeat (first|exact FillA.nil _|(apply FillA.cons;(focus exact rfl);(focus exact rfl);(focus exact rfl);(focus exact rfl);(focus exact rfl);(focus (repeat constructor))))) ⟨rfl,rfl⟩)|exact DC rfl (fun _ _=>MK (by repeat (first|exact FillA.nil _|(apply FillA.cons;(focus exact rfl);(focus exact rfl);(focus exact rfl);(focus exact rfl);(focus exact rfl);(focus (repeat constructor))))) ⟨rfl,rfl⟩))(h:B):A:=k h
theorem Bw{A B:Prop}(k:B→A:=by intro b;first|exact A6 rfl (ML (by repeat (first|exact DenseA.nil _|(apply DenseA.cons;(focus exact rfl);(focus exact rfl);(focus exact rfl);(focus exact rfl))|(apply DenseA.consE;(focus exact rfl);(focus exact rfl);(focus exact rfl)))) rfl rfl rfl rfl b)|exact BB (ML (by repeat (first|exact DenseA.nil _|(apply DenseA.cons;(focus exact rfl);(focus exact rfl);(focus exact rfl);(focus exact rfl))|(apply DenseA.consE;(focus exact rfl);(focus exact rfl);(focus exact rfl)))) rfl rfl rfl rfl b))(h:B):A:=k h
theorem JK(i:Nat){A B:Prop}(k:Do i B A:=by first|exact DA rfl (ML (by repeat (first|exact DenseA.nil _|(apply DenseA.cons;(focus exact rfl);(focus exact rfl);(focus exact rfl);(focus exact rfl))|(apply DenseA.consE;(focus exact rfl);(focus exact rfl);(focus exact rfl)))) rfl rfl rfl rfl ⟨rfl,rfl⟩)|exact DC rfl (fun _ _=>ML (by repeat (first|exact DenseA.nil _|(apply DenseA.cons;(focus exact rfl);(focus exact rfl);(focus exact rfl);(focus exact rfl))|(apply DenseA.consE;(focus exact rfl);(focus exact rfl);(focus exact rfl)))) rfl rfl rfl rfl ⟨rfl,rfl⟩))(h:B):A:=k h
theorem Ag{A B:Prop}(k:B→A:=by intro b;first|exact A6 rfl (OH b)|exact BB (OH b))(h:B):A:=k h
theorem JL(i:Nat){A B:Prop}(k:Do i B A:=by first|exact DA rfl (OH ⟨rfl,rfl⟩)|exact DC rfl (fun _ _=>OH ⟨rfl,rfl⟩))(h:B):A:=k h
theorem Ar{A B:Prop}(k:B→A:=by intro b;first|exact A6 rfl (OJ b)|exact BB (OJ b))(h:B):A:=k h
theorem GK(i:Nat){A B:Prop}(k:Do i B A:=by first|exact DA rfl (OJ ⟨rfl,rfl⟩)|exact DC rfl (fun _ _=>OJ ⟨rfl,rfl⟩))(h:B):A:=k h
theorem i_{A B:Prop}(k:B→A:=by intro b;first|exact A6 rfl (Ci rfl rfl rfl (by first|assumption|rfl) b)|exact BB (Ci rfl rfl rfl (by first|assumption|rfl) b))(h:B):A:=k h
theorem EC(i:Nat){A B:Prop}(k:Do i B A:=by first|exact DA rfl (Ci rfl rfl rfl (by first|assumption|rfl) ⟨rfl,rfl⟩)|exact DC rfl (fun _ _=>Ci rfl rfl rfl (by first|assumption|rfl) ⟨rfl,rfl⟩))(h:B):A:=k h
theorem Yl{A B:Prop}(k:B→A:=by intro b;first|exact A6 rfl (TB rfl rfl (by omega) (by repeat constructor) b)|exact BB (TB rfl rfl (by omega) (by repeat constructor) b))(h:B):A:=k h
theorem BG{A B:Prop}(k:B→A:=by intro b;first|exact A6 rfl (O2 rfl b)|exact BB (O2 rfl b))(h:B):A:=k h
theorem QG(i:Nat){A B:Prop}(k:Do i B A:=by first|exact DA rfl (O2 rfl ⟨rfl,rfl⟩)|exact DC rfl (fun _ _=>O2 rfl ⟨rfl,rfl⟩))(h:B):A:=k h
theorem BH{A B:Prop}(k:B→A:=by intro b;first|exact A6 rfl (KL rfl rfl (by omega) b)|exact A6 rfl (FE rfl rfl (by omega) b)|exact A6 rfl (Pu rfl rfl b)|exact BB (KL rfl rfl (by omega) b)|exact BB (FE rfl rfl (by omega) b)|exact BB (Pu rfl rfl b))(h:B):A:=k h
theorem OR{A B:Prop}(k:B→A:=by intro b;first|exact A6 rfl (Jm rfl rfl (by omega) b)|exact A6 rfl (MJ rfl rfl b)|exact BB (Jm rfl rfl (by omega) b)|exact BB (MJ rfl rfl b))(h:B):A:=k h
theorem QH(i:Nat){A B:Prop}(k:Do i B A:=by first|exact DA rfl (Jm rfl rfl (by omega) ⟨rfl,rfl⟩)|exact DA rfl (MJ rfl rfl ⟨rfl,rfl⟩)|exact DC rfl (fun _ _=>Jm rfl rfl (by omega) ⟨rfl,rfl⟩)|exact DC rfl (fun _ _=>MJ rfl rfl ⟨rfl,rfl⟩))(h:B):A:=k h
theorem Ym{A B:Prop}(k:B→A:=by intro b;first|exact A6 rfl (So rfl rfl b)|exact BB (So rfl rfl b))(h:B):A:=k h
theorem AR{A B:Prop}(k:B→A:=by intro b;first|exact A6 rfl (Nv rfl rfl b)|exact A6 rfl (O0 rfl rfl b)|exact A6 rfl (OD (by kernel_rfl) rfl rfl b)|exact BB (Nv rfl rfl b)|exact BB (O0 rfl rfl b)|exact BB (OD (by kernel_rfl) rfl rfl b))(h:B):A:=k h
theorem JM(i:Nat){A B:Prop}(k:Do i B A:=by first|exact DA rfl (Nv rfl rfl ⟨rfl,rfl⟩)|exact DA rfl (O0 rfl rfl ⟨rfl,rfl⟩)|exact DA rfl (OD (by kernel_rfl) rfl rfl ⟨rfl,rfl⟩)|exact DC rfl (fun _ _=>Nv rfl rfl ⟨rfl,rfl⟩)|exact DC rfl (fun _ _=>O0 rfl rfl ⟨rfl,rfl⟩)|exact DC rfl (fun _ _=>OD (by kernel_rfl) rfl rfl ⟨rfl,rfl⟩))(h:B):A:=k h
theorem BV{A B:Prop}(k:B→A:=by intro b;first|exact A6 rfl (Nx rfl rfl b)|exact A6 rfl (O1 rfl rfl b)|exact A6 rfl (OE (by kernel_rfl) rfl rfl b)|exact BB (Nx rfl rfl b)|exact BB (O1 rfl rfl b)|exact BB (OE (by kernel_rfl) rfl rfl b))(h:B):A:=k h
theorem LJ(i:Nat){A B:Prop}(k:Do i B A:=by first|exact DA rfl (Nx rfl rfl ⟨rfl,rfl⟩)|exact DA rfl (O1 rfl rfl ⟨rfl,rfl⟩)|exact DA rfl (OE (by kernel_rfl) rfl rfl ⟨rfl,rfl⟩)|exact DC rfl (fun _ _=>Nx rfl rfl ⟨rfl,rfl⟩)|exact DC rfl (fun _ _=>O1 rfl rfl ⟨rfl,rfl⟩)|exact DC rfl (fun _ _=>OE (by kernel_rfl) rfl rfl ⟨rfl,rfl⟩))(h:B):A:=k h
theorem BS{A B:Prop}(k:B→A:=by intro b;first|exact A6 rfl (Sr rfl rfl b)|exact A6 rfl (Sv rfl rfl b)|exact BB (Sr rfl rfl b)|exact BB (Sv rfl rfl b))(h:B):A:=k h
theorem Ma{A B:Prop}(k:B→A:=by intro b;first|exact A6 rfl (Ny rfl rfl b)|exact BB (Ny rfl rfl b))(h:B):A:=k h
theorem Yn(i:Nat){A B:Prop}(k:Do i B A:=by first|exact DA rfl (Ny rfl rfl ⟨rfl,rfl⟩)|exact DC rfl (fun _ _=>Ny rfl rfl ⟨rfl,rfl⟩))(h:B):A:=k h
theorem Ck{A B:Prop}(k:B→A:=by intro b;first|exact A6 rfl (Nz rfl rfl b)|exact BB (Nz rfl rfl b))(h:B):A:=k h
theorem QJ(i:Nat){A B:Prop}(k:Do i B A:=by first|exact DA rfl (Nz rfl rfl ⟨rfl,rfl⟩)|exact DC rfl (fun _ _=>Nz rfl rfl ⟨rfl,rfl⟩))(h:B):A:=k h
theorem GL{A B:Prop}(k:B→A:=by intro b;first|exact A6 rfl (Ss rfl rfl b)|exact A6 rfl (Sw rfl rfl b)|exact BB (Ss rfl rfl b)|exact BB (Sw rfl rfl b))(h:B):A:=k h
theorem Em{A B:Prop}(k:B→A:=by intro b;first|exact A6 rfl (TD rfl rfl b)|exact BB (TD rfl rfl b))(h:B):A:=k h
theorem at_{A B:Prop}(k:B→A:=by intro b;first|exact A6 rfl (TL rfl rfl b)|exact BB (TL rfl rfl b))(h:B):A:=k h
theorem TW{A B:Prop}(k:B→A:=by intro b;first|exact A6 rfl (TE rfl rfl (by omega) b)|exact BB (TE rfl rfl (by omega) b))(h:B):A:=k h
theorem Bl{f:Nat→Option AV}{bx:List (List AV)}{tk:List (Nat×Nat×List (List AV))}{l:List (Nat×AV)}{N:Dim}(n m:Nat){bx':List (List AV)}{tk':List (Nat×Nat×List (List AV))}(hbp:Ai n m bx'=true)(hn:Nat.ble N.ni n=true:=by rfl)(hb:bx.take n=bx':=by rfl)(ht:tk.take m=tk':=by rfl)(hl:Sub n m f l:=by repeat (first|exact Sub.nil|refine Sub.cons _ _ _ rfl rfl ?_|refine Sub.any _ _ ?_|refine Sub.sl _ _ _ _ _ rfl ?_|refine Sub.slnil _ _ _ rfl ?_)):Weak N ⟨f,⟨bx,tk⟩⟩ ⟨look l,⟨bx',tk'⟩⟩:=Az n m hn hb ht hbp hl
theorem DD{P:Program}{ev:Operand→Option AV}{h:AH}{R:AV→AH→Prop}{d:Option Tmp}{ty:TypeId}{pos:String}{af:Array Edge}{gd:Option (Nat×Bool)}{T:TypeId}{l:List (Nat×Operand)}{pl:List (Nat×Nat)}{row cs:List AV}[hp:Plc P T pl][hz:Zer P T row](hR:R (.agg cs) h)(hf:FillA pl ev row l cs:=by repeat (first|exact FillA.nil _|(apply FillA.cons;(focus exact rfl);(focus exact rfl);(focus exact rfl);(focus exact rfl);(focus exact rfl);(focus (repeat constructor))))):AStep P ⟨d, .build T l.toArray,ty,pos,af,gd⟩ ev h R:=MK hf hR
theorem Ex{P:Program}{ev:Operand→Option AV}{h:AH}{R:AV→AH→Prop}{o:Oper}{x y:AV}(hs:AStep P o ev h fun r h'=>r=x∧h'=h)(hR:R y h)(hl:LeA x y:=by repeat (first|exact A9 _|exact LeA.nil _|exact LeL.refl _|refine LeA.agg ?_|refine LeA.tup ?_|exact LeL.nil|refine LeL.cons ?_ ?_|exact LeA.any _)):AStep P o ev h R:=FF hs hl hR
instance :Typ prog 3 1 false:=⟨by kernel_rfl⟩
instance :Typ prog 4 1 false:=⟨by kernel_rfl⟩
instance :Typ prog 9 1 false:=⟨by kernel_rfl⟩
instance :Typ prog 22 1 false:=⟨by kernel_rfl⟩
instance :Elm prog 22 3 1 8:=⟨by kernel_rfl,by decide⟩
instance :Typ prog 26 1 false:=⟨by kernel_rfl⟩
instance :Elm prog 26 120 2 32:=⟨by kernel_rfl,by decide⟩
instance :Typ prog 28 1 true:=⟨by kernel_rfl⟩
instance :Zer prog 28 [.v (.slice none 0 0)]:=⟨[.slice none 0 0],by kernel_rfl,rfl,rfl⟩
instance :Plc prog 28 [(0,1)]:=⟨by kernel_rfl⟩
instance :Fld prog 28 0 0 1:=⟨by kernel_rfl⟩
instance :Typ prog 29 1 false:=⟨by kernel_rfl⟩
instance :Elm prog 29 149 3 24:=⟨by kernel_rfl,by decide⟩
instance :Typ prog 31 2 true:=⟨by kernel_rfl⟩
instance :Zer prog 31 [.v (.slice none 0 0), .v (.slice none 0 0)]:=⟨[.slice none 0 0, .slice none 0 0],by kernel_rfl,rfl,rfl⟩
instance :Plc prog 31 [(0,1),(1,1)]:=⟨by kernel_rfl⟩
instance :Fld prog 31 0 0 1:=⟨by kernel_rfl⟩
instance :Fld prog 31 1 1 1:=⟨by kernel_rfl⟩
instance :Typ prog 36 2 true:=⟨by kernel_rfl⟩
instance :Zer prog 36 [.v (.int .i64 0), .v (.int .i64 0)]:=⟨[.int .i64 0, .int .i64 0],by kernel_rfl,rfl,rfl⟩
instance :Plc prog 36 [(0,1),(1,1)]:=⟨by kernel_rfl⟩
instance :Fld prog 36 0 0 1:=⟨by kernel_rfl⟩
instance :Fld prog 36 1 1 1:=⟨by kernel_rfl⟩
instance :Typ prog 38 6 true:=⟨by kernel_rfl⟩
instance :Zer prog 38 [.v (.int .i64 0), .v (.int .i64 0), .v (.int .i64 0), .v (.string ⟨#[]⟩), .v (.int .i64 0), .v (.int .i64 0)]:=⟨[.int .i64 0, .int .i64 0, .int .i64 0, .string ⟨#[]⟩, .int .i64 0, .int .i64 0],by kernel_rfl,rfl,rfl⟩
instance :Plc prog 38 [(0,1),(1,2),(3,1),(4,2)]:=⟨by kernel_rfl⟩
instance :Fld prog 38 0 0 1:=⟨by kernel_rfl⟩
instance :Fld prog 38 1 1 2:=⟨by kernel_rfl⟩
instance :Fld prog 38 2 3 1:=⟨by kernel_rfl⟩
instance :Fld prog 38 3 4 2:=⟨by kernel_rfl⟩
instance :Typ prog 39 1 false:=⟨by kernel_rfl⟩
instance :Typ prog 52 13 true:=⟨by kernel_rfl⟩
instance :Zer prog 52 [.v (.string ⟨#[]⟩), .v (.string ⟨#[]⟩), .v (.int .i64 0), .v (.int .i64 0), .v (.string ⟨#[]⟩), .v (.int .i64 0), .v (.int .i64 0), .v (.int .i64 0), .v (.int .i64 0), .v (.int .i64 0), .v (.int .i64 0), .v (.int .i64 0), .v (.int .i64 0)]:=⟨[.string ⟨#[]⟩, .string ⟨#[]⟩, .int .i64 0, .int .i64 0, .string ⟨#[]⟩, .int .i64 0, .int .i64 0, .int .i64 0, .int .i64 0, .int .i64 0, .int .i64 0, .int .i64 0, .int .i64 0],by kernel_rfl,rfl,rfl⟩
instance :Plc prog 52 [(0,1),(1,1),(2,2),(4,1),(5,2),(7,1),(8,1),(9,1),(10,1),(11,1),(12,1)]:=⟨by kernel_rfl⟩
instance :Fld prog 52 4 5 2:=⟨by kernel_rfl⟩
instance :Fld prog 52 5 7 1:=⟨by kernel_rfl⟩
instance :Fld prog 52 6 8 1:=⟨by kernel_rfl⟩
instance :Fld prog 52 7 9 1:=⟨by kernel_rfl⟩
instance :Fld prog 52 8 10 1:=⟨by kernel_rfl⟩
instance :Fld prog 52 9 11 1:=⟨by kernel_rfl⟩
instance :Typ prog 53 1 false:=⟨by kernel_rfl⟩
instance :Elm prog 53 61 14 144:=⟨by kernel_rfl,by decide⟩
instance :Typ prog 55 3 true:=⟨by kernel_rfl⟩
instance :Zer prog 55 [.v (.int .i64 0), .v (.int .i64 0), .v (.slice none 0 0)]:=⟨[.int .i64 0, .int .i64 0, .slice none 0 0],by kernel_rfl,rfl,rfl⟩
instance :Plc prog 55 [(0,1),(1,1),(2,1)]:=⟨by kernel_rfl⟩
instance :Fld prog 55 0 0 1:=⟨by kernel_rfl⟩
instance :Fld prog 55 1 1 1:=⟨by kernel_rfl⟩
instance :Fld prog 55 2 2 1:=⟨by kernel_rfl⟩
instance :Typ prog 57 5 true:=⟨by kernel_rfl⟩
instance :Zer prog 57 [.v (.slice none 0 0), .v (.slice none 0 0), .v (.int .i64 0), .v (.int .i64 0), .v (.slice none 0 0)]:=⟨[.slice none 0 0, .slice none 0 0, .int .i64 0, .int .i64 0, .slice none 0 0],by kernel_rfl,rfl,rfl⟩
instance :Plc prog 57 [(0,2),(2,3)]:=⟨by kernel_rfl⟩
instance :Fld prog 57 0 0 2:=⟨by kernel_rfl⟩
instance :Fld prog 57 1 2 3:=⟨by kernel_rfl⟩
instance :Typ prog 59 1 false:=⟨by kernel_rfl⟩
instance :Elm prog 59 243 4 32:=⟨by kernel_rfl,by decide⟩
instance :Typ prog 61 14 true:=⟨by kernel_rfl⟩
instance :Zer prog 61 [.v (.int .i64 0), .v (.int .i64 0), .v (.int .i64 0), .v (.int .i64 0), .v (.int .i64 0), .v (.int .i64 0), .v (.int .i64 0), .v (.int .i64 0), .v (.int .i64 0), .v (.int .i64 0), .v (.string ⟨#[]⟩), .v (.string ⟨#[]⟩), .v (.slice none 0 0), .v (.bool false)]:=⟨[.int .i64 0, .int .i64 0, .int .i64 0, .int .i64 0, .int .i64 0, .int .i64 0, .int .i64 0, .int .i64 0, .int .i64 0, .int .i64 0, .string ⟨#[]⟩, .string ⟨#[]⟩, .slice none 0 0, .bool false],by kernel_rfl,rfl,rfl⟩
instance :Plc prog 61 [(0,1),(1,1),(2,1),(3,1),(4,1),(5,1),(6,1),(7,1),(8,2),(10,1),(11,1),(12,1),(13,1)]:=⟨by kernel_rfl⟩
instance :Fld prog 61 0 0 1:=⟨by kernel_rfl⟩
instance :Fld prog 61 1 1 1:=⟨by kernel_rfl⟩
instance :Fld prog 61 2 2 1:=⟨by kernel_rfl⟩
instance :Fld prog 61 3 3 1:=⟨by kernel_rfl⟩
instance :Fld prog 61 4 4 1:=⟨by kernel_rfl⟩
instance :Fld prog 61 5 5 1:=⟨by kernel_rfl⟩
instance :Fld prog 61 6 6 1:=⟨by kernel_rfl⟩
instance :Fld prog 61 7 7 1:=⟨by kernel_rfl⟩
instance :Fld prog 61 8 8 2:=⟨by kernel_rfl⟩
instance :Fld prog 61 9 10 1:=⟨by kernel_rfl⟩
instance :Fld prog 61 10 11 1:=⟨by kernel_rfl⟩
instance :Fld prog 61 11 12 1:=⟨by kernel_rfl⟩
instance :Typ prog 62 4 true:=⟨by kernel_rfl⟩
instance :Zer prog 62 [.v (.int .i64 0), .v (.int .i64 0), .v (.int .i64 0), .v (.int .i64 0)]:=⟨[.int .i64 0, .int .i64 0, .int .i64 0, .int .i64 0],by kernel_rfl,rfl,rfl⟩
instance :Plc prog 62 [(0,1),(1,1),(2,1),(3,1)]:=⟨by kernel_rfl⟩
instance :Typ prog 63 1 false:=⟨by kernel_rfl⟩
instance :Elm prog 63 9 1 16:=⟨by kernel_rfl,by decide⟩
instance :Typ prog 65 7 true:=⟨by kernel_rfl⟩
instance :Zer prog 65 [.v (.int .i64 0), .v (.int .i64 0), .v (.int .i64 0), .v (.int .i64 0), .v (.int .i64 0), .v (.slice none 0 0), .v (.slice none 0 0)]:=⟨[.int .i64 0, .int .i64 0, .int .i64 0, .int .i64 0, .int .i64 0, .slice none 0 0, .slice none 0 0],by kernel_rfl,rfl,rfl⟩
instance :Plc prog 65 [(0,1),(1,4),(5,1),(6,1)]:=⟨by kernel_rfl⟩
instance :Fld prog 65 0 0 1:=⟨by kernel_rfl⟩
instance :Fld prog 65 1 1 4:=⟨by kernel_rfl⟩
instance :Fld prog 65 2 5 1:=⟨by kernel_rfl⟩
instance :Fld prog 65 3 6 1:=⟨by kernel_rfl⟩
instance :Typ prog 66 1 false:=⟨by kernel_rfl⟩
instance :Elm prog 66 52 13 128:=⟨by kernel_rfl,by decide⟩
instance :Typ prog 69 1 false:=⟨by kernel_rfl⟩
instance :Elm prog 69 79 7 64:=⟨by kernel_rfl,by decide⟩
instance :Typ prog 71 5 true:=⟨by kernel_rfl⟩
instance :Zer prog 71 [.v (.int .i64 0), .v (.int .i64 0), .v (.int .i64 0), .v (.slice none 0 0), .v (.slice none 0 0)]:=⟨[.int .i64 0, .int .i64 0, .int .i64 0, .slice none 0 0, .slice none 0 0],by kernel_rfl,rfl,rfl⟩
instance :Plc prog 71 [(0,1),(1,1),(2,1),(3,1),(4,1)]:=⟨by kernel_rfl⟩
instance :Fld prog 71 0 0 1:=⟨by kernel_rfl⟩
instance :Fld prog 71 1 1 1:=⟨by kernel_rfl⟩
instance :Fld prog 71 2 2 1:=⟨by kernel_rfl⟩
instance :Fld prog 71 3 3 1:=⟨by kernel_rfl⟩
instance :Fld prog 71 4 4 1:=⟨by kernel_rfl⟩
instance :Typ prog 79 7 true:=⟨by kernel_rfl⟩
instance :Zer prog 79 [.v (.int .i64 0), .v (.int .i64 0), .v (.string ⟨#[]⟩), .v (.int .i64 0), .v (.int .i64 0), .v (.int .i64 0), .v (.int .i64 0)]:=⟨[.int .i64 0, .int .i64 0, .string ⟨#[]⟩, .int .i64 0, .int .i64 0, .int .i64 0, .int .i64 0],by kernel_rfl,rfl,rfl⟩
instance :Plc prog 79 [(0,2),(2,1),(3,2),(5,2)]:=⟨by kernel_rfl⟩
instance :Fld prog 79 0 0 2:=⟨by kernel_rfl⟩
instance :Fld prog 79 1 2 1:=⟨by kernel_rfl⟩
instance :Fld prog 79 2 3 2:=⟨by kernel_rfl⟩
instance :Fld prog 79 3 5 2:=⟨by kernel_rfl⟩
instance :Typ prog 99 1 false:=⟨by kernel_rfl⟩
instance :Elm prog 99 138 2 24:=⟨by kernel_rfl,by decide⟩
instance :Typ prog 101 8 true:=⟨by kernel_rfl⟩
instance :Zer prog 101 [.v (.int .i64 0), .v (.int .i64 0), .v (.int .i64 0), .v (.int .i64 0), .v (.int .i64 0), .v (.int .i64 0), .v (.string ⟨#[]⟩), .v (.slice none 0 0)]:=⟨[.int .i64 0, .int .i64 0, .int .i64 0, .int .i64 0, .int .i64 0, .int .i64 0, .string ⟨#[]⟩, .slice none 0 0],by kernel_rfl,rfl,rfl⟩
instance :Plc prog 101 [(0,1),(1,1),(2,1),(3,1),(4,1),(5,1),(6,1),(7,1)]:=⟨by kernel_rfl⟩
instance :Fld prog 101 0 0 1:=⟨by kernel_rfl⟩
instance :Fld prog 101 1 1 1:=⟨by kernel_rfl⟩
instance :Fld prog 101 2 2 1:=⟨by kernel_rfl⟩
instance :Fld prog 101 3 3 1:=⟨by kernel_rfl⟩
instance :Fld prog 101 4 4 1:=⟨by kernel_rfl⟩
instance :Fld prog 101 5 5 1:=⟨by kernel_rfl⟩
instance :Fld prog 101 6 6 1:=⟨by kernel_rfl⟩
instance :Fld prog 101 7 7 1:=⟨by kernel_rfl⟩
instance :Zer prog 106 [.v (.slice none 0 0), .v (.int .i64 0)]:=⟨[.slice none 0 0, .int .i64 0],by kernel_rfl,rfl,rfl⟩
instance :Plc prog 106 [(0,1),(1,1)]:=⟨by kernel_rfl⟩
instance :Fld prog 106 0 0 1:=⟨by kernel_rfl⟩
instance :Fld prog 106 1 1 1:=⟨by kernel_rfl⟩
instance :Typ prog 113 8 true:=⟨by kernel_rfl⟩
instance :Zer prog 113 [.v (.int .i64 0), .v (.int .i64 0), .v (.string ⟨#[]⟩), .v (.int .i64 0), .v (.int .i64 0), .v (.bool false), .v (.bool false), .v (.string ⟨#[]⟩)]:=⟨[.int .i64 0, .int .i64 0, .string ⟨#[]⟩, .int .i64 0, .int .i64 0, .bool false, .bool false, .string ⟨#[]⟩],by kernel_rfl,rfl,rfl⟩
instance :Plc prog 113 [(0,2),(2,1),(3,2),(5,1),(6,1),(7,1)]:=⟨by kernel_rfl⟩
instance :Fld prog 113 0 0 2:=⟨by kernel_rfl⟩
instance :Fld prog 113 1 2 1:=⟨by kernel_rfl⟩
instance :Fld prog 113 2 3 2:=⟨by kernel_rfl⟩
instance :Fld prog 113 3 5 1:=⟨by kernel_rfl⟩
instance :Fld prog 113 4 6 1:=⟨by kernel_rfl⟩
instance :Fld prog 113 5 7 1:=⟨by kernel_rfl⟩
instance :Typ prog 118 1 false:=⟨by kernel_rfl⟩
instance :Elm prog 118 101 8 88:=⟨by kernel_rfl,by decide⟩
instance :Typ prog 120 2 true:=⟨by kernel_rfl⟩
instance :Zer prog 120 [.v (.int .i64 0), .v (.slice none 0 0)]:=⟨[.int .i64 0, .slice none 0 0],by kernel_rfl,rfl,rfl⟩
instance :Plc prog 120 [(0,1),(1,1)]:=⟨by kernel_rfl⟩
instance :Fld prog 120 0 0 1:=⟨by kernel_rfl⟩
instance :Fld prog 120 1 1 1:=⟨by kernel_rfl⟩
instance :Typ prog 128 1 false:=⟨by kernel_rfl⟩
instance :Elm prog 128 113 8 72:=⟨by kernel_rfl,by decide⟩
instance :Zer prog 130 [.v (.slice none 0 0), .v (.slice none 0 0), .v (.int .i64 0), .v (.int .i64 0), .v (.slice none 0 0), .v (.int .i64 0), .v (.int .i64 0), .v (.int .i64 0), .v (.int .i64 0), .v (.int .i64 0), .v (.int .i64 0), .v (.int .i64 0), .v (.int .i64 0), .v (.int .i64 0), .v (.int .i64 0), .v (.string ⟨#[]⟩), .v (.string ⟨#[]⟩), .v (.slice none 0 0), .v (.bool false), .v (.int .i64 0), .v (.int .i64 0), .v (.int .i64 0), .v (.int .i64 0), .v (.int .i64 0), .v (.slice none 0 0), .v (.slice none 0 0), .v (.slice none 0 0), .v (.int .i64 0), .v (.int .i64 0), .v (.int .i64 0), .v (.slice none 0 0), .v (.slice none 0 0)]:=⟨[.slice none 0 0, .slice none 0 0, .int .i64 0, .int .i64 0, .slice none 0 0, .int .i64 0, .int .i64 0, .int .i64 0, .int .i64 0, .int .i64 0, .int .i64 0, .int .i64 0, .int .i64 0, .int .i64 0, .int .i64 0, .string ⟨#[]⟩, .string ⟨#[]⟩, .slice none 0 0, .bool false, .int .i64 0, .int .i64 0, .int .i64 0, .int .i64 0, .int .i64 0, .slice none 0 0, .slice none 0 0, .slice none 0 0, .int .i64 0, .int .i64 0, .int .i64 0, .slice none 0 0, .slice none 0 0],by kernel_rfl,rfl,rfl⟩
instance :Plc prog 130 [(0,5),(5,14),(19,7),(26,1),(27,5)]:=⟨by kernel_rfl⟩
instance :Fld prog 130 0 0 5:=⟨by kernel_rfl⟩
instance :Fld prog 130 1 5 14:=⟨by kernel_rfl⟩
instance :Fld prog 130 2 19 7:=⟨by kernel_rfl⟩
instance :Fld prog 130 3 26 1:=⟨by kernel_rfl⟩
instance :Fld prog 130 4 27 5:=⟨by kernel_rfl⟩
instance :Typ prog 138 2 true:=⟨by kernel_rfl⟩
instance :Zer prog 138 [.v (.string ⟨#[]⟩), .v (.int .i64 0)]:=⟨[.string ⟨#[]⟩, .int .i64 0],by kernel_rfl,rfl,rfl⟩
instance :Plc prog 138 [(0,1),(1,1)]:=⟨by kernel_rfl⟩
instance :Fld prog 138 0 0 1:=⟨by kernel_rfl⟩
instance :Fld prog 138 1 1 1:=⟨by kernel_rfl⟩
instance :Elm prog 140 39 1 8:=⟨by kernel_rfl,by decide⟩
instance :Typ prog 149 3 true:=⟨by kernel_rfl⟩
instance :Zer prog 149 [.v (.int .i64 0), .v (.int .i64 0), .v (.int .i64 0)]:=⟨[.int .i64 0, .int .i64 0, .int .i64 0],by kernel_rfl,rfl,rfl⟩
instance :Plc prog 149 [(0,1),(1,2)]:=⟨by kernel_rfl⟩
instance :Fld prog 149 0 0 1:=⟨by kernel_rfl⟩
instance :Fld prog 149 1 1 2:=⟨by kernel_rfl⟩
instance :Typ prog 167 11 true:=⟨by kernel_rfl⟩
instance :Zer prog 167 [.v (.slice none 0 0), .v (.slice none 0 0), .v (.slice none 0 0), .v (.int .i64 0), .v (.int .i64 0), .v (.int .i64 0), .v (.int .i64 0), .v (.string ⟨#[]⟩), .v (.bool false), .v (.bool false), .v (.int .i64 0)]:=⟨[.slice none 0 0, .slice none 0 0, .slice none 0 0, .int .i64 0, .int .i64 0, .int .i64 0, .int .i64 0, .string ⟨#[]⟩, .bool false, .bool false, .int .i64 0],by kernel_rfl,rfl,rfl⟩
instance :Plc prog 167 [(0,2),(2,1),(3,2),(5,2),(7,1),(8,1),(9,1),(10,1)]:=⟨by kernel_rfl⟩
instance :Fld prog 167 0 0 2:=⟨by kernel_rfl⟩
instance :Fld prog 167 1 2 1:=⟨by kernel_rfl⟩
instance :Fld prog 167 2 3 2:=⟨by kernel_rfl⟩
instance :Fld prog 167 3 5 2:=⟨by kernel_rfl⟩
instance :Fld prog 167 4 7 1:=⟨by kernel_rfl⟩
instance :Fld prog 167 5 8 1:=⟨by kernel_rfl⟩
instance :Fld prog 167 6 9 1:=⟨by kernel_rfl⟩
instance :Fld prog 167 7 10 1:=⟨by kernel_rfl⟩
instance :Typ prog 181 5 true:=⟨by kernel_rfl⟩
instance :Zer prog 181 [.v (.string ⟨#[]⟩), .v (.int .i64 0), .v (.int .i64 0), .v (.int .i64 0), .v (.int .i64 0)]:=⟨[.string ⟨#[]⟩, .int .i64 0, .int .i64 0, .int .i64 0, .int .i64 0],by kernel_rfl,rfl,rfl⟩
instance :Plc prog 181 [(0,1),(1,1),(2,1),(3,1),(4,1)]:=⟨by kernel_rfl⟩
instance :Fld prog 181 0 0 1:=⟨by kernel_rfl⟩
instance :Fld prog 181 1 1 1:=⟨by kernel_rfl⟩
instance :Fld prog 181 2 2 1:=⟨by kernel_rfl⟩
instance :Fld prog 181 3 3 1:=⟨by kernel_rfl⟩
instance :Fld prog 181 4 4 1:=⟨by kernel_rfl⟩
instance :Elm prog 206 181 5 48:=⟨by kernel_rfl,by decide⟩
instance :Typ prog 243 4 true:=⟨by kernel_rfl⟩
instance :Zer prog 243 [.v (.int .i64 0), .v (.int .i64 0), .v (.int .i64 0), .v (.int .i64 0)]:=⟨[.int .i64 0, .int .i64 0, .int .i64 0, .int .i64 0],by kernel_rfl,rfl,rfl⟩
instance :Plc prog 243 [(0,1),(1,2),(3,1)]:=⟨by kernel_rfl⟩
instance :Fld prog 243 0 0 1:=⟨by kernel_rfl⟩
instance :Fld prog 243 1 1 2:=⟨by kernel_rfl⟩
instance :Fun prog 11:=⟨by kernel_rfl⟩
instance :Fun prog 12:=⟨by kernel_rfl⟩
instance :Fun prog 14:=⟨by kernel_rfl⟩
instance :Fun prog 15:=⟨by kernel_rfl⟩
instance :Fun prog 16:=⟨by kernel_rfl⟩
instance :Fun prog 17:=⟨by kernel_rfl⟩
instance :Fun prog 18:=⟨by kernel_rfl⟩
instance :Fun prog 20:=⟨by kernel_rfl⟩
instance :Fun prog 21:=⟨by kernel_rfl⟩
instance :Fun prog 23:=⟨by kernel_rfl⟩
instance :Fun prog 24:=⟨by kernel_rfl⟩
instance :Fun prog 26:=⟨by kernel_rfl⟩
instance :Fun prog 27:=⟨by kernel_rfl⟩
instance :Fun prog 32:=⟨by kernel_rfl⟩
instance :Fun prog 33:=⟨by kernel_rfl⟩
instance :Fun prog 35:=⟨by kernel_rfl⟩
instance :Fun prog 36:=⟨by kernel_rfl⟩
instance :Fun prog 37:=⟨by kernel_rfl⟩
instance :Fun prog 38:=⟨by kernel_rfl⟩
instance :Fun prog 39:=⟨by kernel_rfl⟩
instance :Fun prog 41:=⟨by kernel_rfl⟩
instance :Fun prog 43:=⟨by kernel_rfl⟩
instance :Fun prog 44:=⟨by kernel_rfl⟩
instance :Fun prog 45:=⟨by kernel_rfl⟩
instance :Fun prog 46:=⟨by kernel_rfl⟩
instance :Fun prog 47:=⟨by kernel_rfl⟩
instance :Fun prog 49:=⟨by kernel_rfl⟩
instance :Fun prog 50:=⟨by kernel_rfl⟩
instance :Fun prog 51:=⟨by kernel_rfl⟩
instance :Fun prog 52:=⟨by kernel_rfl⟩
instance :Fun prog 53:=⟨by kernel_rfl⟩
instance :Fun prog 54:=⟨by kernel_rfl⟩
instance :Fun prog 55:=⟨by kernel_rfl⟩
instance :Fun prog 56:=⟨by kernel_rfl⟩
instance :Fun prog 57:=⟨by kernel_rfl⟩
instance :Fun prog 58:=⟨by kernel_rfl⟩
instance :Fun prog 59:=⟨by kernel_rfl⟩
instance :Fun prog 60:=⟨by kernel_rfl⟩
instance :Fun prog 61:=⟨by kernel_rfl⟩
instance :Fun prog 63:=⟨by kernel_rfl⟩
instance :Fun prog 64:=⟨by kernel_rfl⟩
instance :Fun prog 65:=⟨by kernel_rfl⟩
instance :Fun prog 66:=⟨by kernel_rfl⟩
instance :Fun prog 67:=⟨by kernel_rfl⟩
instance :Fun prog 68:=⟨by kernel_rfl⟩
instance :Fun prog 69:=⟨by kernel_rfl⟩
instance :Fun prog 70:=⟨by kernel_rfl⟩
instance :Fun prog 71:=⟨by kernel_rfl⟩
instance :Fun prog 72:=⟨by kernel_rfl⟩
instance :Fun prog 73:=⟨by kernel_rfl⟩
instance :Fun prog 74:=⟨by kernel_rfl⟩
instance :Fun prog 75:=⟨by kernel_rfl⟩
instance :Fun prog 76:=⟨by kernel_rfl⟩
instance :Fun prog 77:=⟨by kernel_rfl⟩
instance :Fun prog 78:=⟨by kernel_rfl⟩
instance :Fun prog 79:=⟨by kernel_rfl⟩
instance :Fun prog 81:=⟨by kernel_rfl⟩
instance :Fun prog 83:=⟨by kernel_rfl⟩
instance :Fun prog 84:=⟨by kernel_rfl⟩
instance :Fun prog 85:=⟨by kernel_rfl⟩
instance :Fun prog 86:=⟨by kernel_rfl⟩
instance :Fun prog 88:=⟨by kernel_rfl⟩
instance :Fun prog 91:=⟨by kernel_rfl⟩
instance :Fun prog 92:=⟨by kernel_rfl⟩
instance :Fun prog 93:=⟨by kernel_rfl⟩
instance :Fun prog 94:=⟨by kernel_rfl⟩
instance :Fun prog 95:=⟨by kernel_rfl⟩
instance :Fun prog 96:=⟨by kernel_rfl⟩
instance :Fun prog 97:=⟨by kernel_rfl⟩
instance :Fun prog 98:=⟨by kernel_rfl⟩
instance :Fun prog 99:=⟨by kernel_rfl⟩
instance :Fun prog 100:=⟨by kernel_rfl⟩
instance :Fun prog 101:=⟨by kernel_rfl⟩
instance :Fun prog 102:=⟨by kernel_rfl⟩
instance :Fun prog 103:=⟨by kernel_rfl⟩
instance :Fun prog 105:=⟨by kernel_rfl⟩
instance :Fun prog 107:=⟨by kernel_rfl⟩
instance :Fun prog 108:=⟨by kernel_rfl⟩
instance :Fun prog 109:=⟨by kernel_rfl⟩
instance :Fun prog 110:=⟨by kernel_rfl⟩
instance :Fun prog 111:=⟨by kernel_rfl⟩
instance :Fun prog 112:=⟨by kernel_rfl⟩
instance :Fun prog 113:=⟨by kernel_rfl⟩
instance :Fun prog 114:=⟨by kernel_rfl⟩
instance :Fun prog 115:=⟨by kernel_rfl⟩
instance :Fun prog 116:=⟨by kernel_rfl⟩
instance :Fun prog 117:=⟨by kernel_rfl⟩
instance :Fun prog 118:=⟨by kernel_rfl⟩
instance :Fun prog 119:=⟨by kernel_rfl⟩
instance :Fun prog 120:=⟨by kernel_rfl⟩
instance :Fun prog 121:=⟨by kernel_rfl⟩
instance :Fun prog 122:=⟨by kernel_rfl⟩
instance :Fun prog 124:=⟨by kernel_rfl⟩
instance :Fun prog 125:=⟨by kernel_rfl⟩
instance :Fun prog 126:=⟨by kernel_rfl⟩
instance :Fun prog 127:=⟨by kernel_rfl⟩
instance :Fun prog 132:=⟨by kernel_rfl⟩
instance :Fun prog 134:=⟨by kernel_rfl⟩
instance :Fun prog 135:=⟨by kernel_rfl⟩
instance :Fun prog 136:=⟨by kernel_rfl⟩
instance :Fun prog 137:=⟨by kernel_rfl⟩
instance :Fun prog 138:=⟨by kernel_rfl⟩
instance :Fun prog 139:=⟨by kernel_rfl⟩
instance :Fun prog 140:=⟨by kernel_rfl⟩
instance :Fun prog 141:=⟨by kernel_rfl⟩
instance :Fun prog 142:=⟨by kernel_rfl⟩
instance :Fun prog 143:=⟨by kernel_rfl⟩
instance :Fun prog 145:=⟨by kernel_rfl⟩
instance :Fun prog 147:=⟨by kernel_rfl⟩
instance :Fun prog 148:=⟨by kernel_rfl⟩
instance :Fun prog 149:=⟨by kernel_rfl⟩
instance :Fun prog 150:=⟨by kernel_rfl⟩
instance :Fun prog 151:=⟨by kernel_rfl⟩
instance :Fun prog 152:=⟨by kernel_rfl⟩
instance :Fun prog 153:=⟨by kernel_rfl⟩
instance :Fun prog 154:=⟨by kernel_rfl⟩
instance :Fun prog 155:=⟨by kernel_rfl⟩
instance :Fun prog 156:=⟨by kernel_rfl⟩
instance :Fun prog 157:=⟨by kernel_rfl⟩
instance :Fun prog 158:=⟨by kernel_rfl⟩
instance :Fun prog 159:=⟨by kernel_rfl⟩
instance :Fun prog 160:=⟨by kernel_rfl⟩
instance :Fun prog 161:=⟨by kernel_rfl⟩
instance :Fun prog 162:=⟨by kernel_rfl⟩
instance :Fun prog 163:=⟨by kernel_rfl⟩
instance :Fun prog 164:=⟨by kernel_rfl⟩
instance :Fun prog 165:=⟨by kernel_rfl⟩
instance :Fun prog 166:=⟨by kernel_rfl⟩
instance :Fun prog 177:=⟨by kernel_rfl⟩
instance :Fun prog 181:=⟨by kernel_rfl⟩
instance :Fun prog 182:=⟨by kernel_rfl⟩
instance :Fun prog 187:=⟨by kernel_rfl⟩
instance :Fun prog 188:=⟨by kernel_rfl⟩
instance :Fun prog 189:=⟨by kernel_rfl⟩
instance :Fun prog 190:=⟨by kernel_rfl⟩
instance :Fun prog 191:=⟨by kernel_rfl⟩
end Go.Proofs.YtbglbmnhgbgelaaGreatDoor
namespace Go.Proofs.YtbglbmnhgbgelaaGreatDoor
abbrev AD:=ByteArray
abbrev AA:=Int×Int
abbrev BF:=AD×Int
abbrev Cs:=Int×AA
abbrev BW:=AA×AD×AA×AA
structure Nod where
 ino:Int
 kind:Int
 mode:Int
 uid:Int
 gid:Int
 parent:Int
 target:AD
 entries:List BF
structure Dvc where
 next:Int
 nodes:List Nod
abbrev AU:=List Dvc
structure Spc where
 files:AU
 mounts:List Cs
def Nod.zero:Nod:=⟨0,0,0,0,0,0,⟨#[]⟩,[]⟩
def KW{α:Type}(p:α→Bool)(l:List α):Int:=
 match l.findIdx? p with
 |some i=>(i:Int)
 |none=> -1
def Ec{α:Type}(l:List α)(i:Int):Option α:=if i<0 then none else l[i.toNat]?
theorem JN{α:Type}(l:List α)(k:Nat):Ec l (k:Int)=l[k]?:=by
 simp[Ec,show¬((k:Int)<0) by omega]
theorem OS{α:Type}{l:List α}{i:Int}(h:i<0∨(l.length:Int)≤i):Ec l i=none:=by
 unfold Ec;split
 ·rfl
 rw[List.getElem?_eq_none];omega
theorem Yo{α:Type}{l:List α}{i:Int}{x:α}(h:Ec l i=some x):0≤i∧i<l.length∧l[i.toNat]?=some x:=by
 unfold Ec at h;split at h
 ·cases h
 have:=(As.1 h).1;exact⟨by omega,by omega,h⟩
theorem TX{α:Type}{p:α→Bool}{l:List α}{m:Nat}{x:α}(hx:l[m]?=some x)(hp:p x=true)(h:∀j y,j<m→l[j]?=some y→p y=false):l.findIdx? p=some m:=by
 have hl:m<l.length:=(As.1 hx).1;rw[List.findIdx?_eq_some_iff_getElem];refine⟨hl,by rw[(As.1 hx).2];exact hp,fun j hj=>?_⟩;have:=h j l[j] hj (B9 _);simp[this]
theorem TY{α:Type}{p:α→Bool}{l:List α}{m:Nat}{x:α}(hx:l[m]?=some x)(hp:p x=true)(h:∀j y,j<m→l[j]?=some y→p y=false):KW p l=m:=by
 unfold KW;rw[TX hx hp h]
theorem Yp{α:Type}{p:α→Bool}{l:List α}(h:∀j y,j<l.length→l[j]?=some y→p y=false):KW p l= -1:=by
 unfold KW;rw[List.findIdx?_eq_none_iff.2];intro x hx;obtain⟨j,hj,rfl⟩:=List.mem_iff_getElem.1 hx;exact h j _ hj (B9 hj)
theorem EP{α:Type}{P:α→Prop}{l:List α}{m:Nat}{x:α}(hx:l[m]?=some x)(h:∀j y,j<m→l[j]?=some y→P y)(hp:P x):∀j y,j<m+1→l[j]?=some y→P y:=by
 intro j y hj hy;by_cases e:j=m
 ·subst e;rw[hx]at hy;cases hy;exact hp
 exact h j y (by omega) hy
def FV(f:AU)(at_:AA):Int:=
 match Ec f at_.1 with
 |none=> -1
 |some d=>KW (fun n:Nod=>n.ino==at_.2) d.nodes
def Bo(f:AU)(at_:AA):Option Nod:=
 match Ec f at_.1 with
 |none=>none
 |some d=>d.nodes.find? (fun n:Nod=>n.ino==at_.2)
theorem TZ{α:Type}{p:α→Bool}{l:List α}:(l.findIdx? p).bind (fun i=>l[i]?)=l.find? p:=by
 cases h:l.findIdx? p with
 |none=>
   rw[List.findIdx?_eq_none_iff]at h;simp only[Option.bind_none];exact(List.find?_eq_none.2 (fun x hx=>by simp[h x hx])).symm
 |some i=>
   obtain⟨hi,hp,hf⟩:=List.findIdx?_eq_some_iff_getElem.1 h;simp only[Option.bind_some,B9 hi];exact(List.find?_eq_some_iff_getElem.2 ⟨hp,i,hi,rfl,fun j hj=>by simpa using hf j hj⟩).symm
theorem JO(f:AU)(at_:AA):(FV f at_= -1∧Bo f at_=none)∨
    ∃(k i:Nat) (d:Dvc) (n:Nod),at_.1=k∧f[k]?=some d∧d.nodes[i]?=some n∧n.ino=at_.2∧FV f at_=i∧Bo f at_=some n:=by
 unfold FV Bo
 cases h:Ec f at_.1 with
 |none=>exact .inl ⟨rfl,rfl⟩
 |some d=>
   obtain⟨h0,h1,h2⟩:=Yo h;simp only[←TZ];unfold KW
   cases hi:d.nodes.findIdx? (fun n:Nod=>n.ino==at_.2)with
   |none=>exact .inl ⟨rfl,rfl⟩
   |some i=>
     obtain⟨hl,hp,_⟩:=List.findIdx?_eq_some_iff_getElem.1 hi;exact .inr ⟨at_.1.toNat,i,d,d.nodes[i],by omega,h2,B9 hl,by simpa using hp,rfl,by simp⟩
theorem OT(a b:AD):(a.toList==b.toList)=decide (a=b):=by
 rw[ByteArray.toList_eq,ByteArray.toList_eq,Bool.eq_iff_iff];simp only[beq_iff_eq,decide_eq_true_eq];constructor
 ·intro h
  cases a with
  |mk a=>
    cases b with
    |mk b=>exact congrArg ByteArray.mk (Array.toList_inj.1 h)
 intro h;rw[h]
def JP(c:UInt8):Bool:= !((c.toNat:Int)==0)&& !((c.toNat:Int)==47)
def DT(s:AD):Bool:=
 if s.size<1∨12<s.size then false else if(s.toList==[46])=true then false else if(s.toList==[46,46])=true then false else s.data.toList.all JP
def KX(s:AD):Bool:=s.data.toList.all (fun c=> !((c.toNat:Int)==0))&&decide (1≤s.size)&&decide (s.size≤128)
theorem Ta{p:UInt8→Bool}{s:AD}(h:∀j (hj:j<s.size),p s[j]=true):s.data.toList.all p=true:=by
 rw[List.all_eq_true];intro c hc;obtain⟨j,hj,rfl⟩:=List.mem_iff_getElem.1 hc;exact h j (by simpa using hj)
theorem QK{p:UInt8→Bool}{s:AD}{j:Nat}(hj:j<s.size)(h:p s[j]=false):s.data.toList.all p=false:=by
 rw[List.all_eq_false];refine⟨s[j],?_,by simp[h]⟩;have:s[j]=s.data.toList[j]'(by simpa using hj):=rfl;rw[this];exact List.getElem_mem _
theorem Tc{p:UInt8→Bool}{s:AD}{m:Nat}(hm:m<s.size)(h:∀j (hj:j<s.size),j<m→p s[j]=true)(hp:p s[m]=true):∀j (hj:j<s.size),j<m+1→p s[j]=true:=by
 intro j hj hlt;by_cases e:j=m
 ·subst e;exact hp
 exact h j hj (by omega)
def AT(f:AU)(at_:AA):Bool:=
 match Bo f at_ with
 |none=>false
 |some n=>n.kind==2
def CC(f:AU)(dir:AA)(name:AD):Int:=
 match Bo f dir with
 |none=>2
 |some n=>if n.kind=2 then(if DT name then 0 else 22)else 20
def JQ(f:AU)(dir:AA):Bool:=
 match Bo f dir with
 |none=>false
 |some n=>decide (12≤n.entries.length)
def JR(f:AU)(dir:AA):Bool:=
 match Bo f dir with
 |none=>true
 |some n=>decide (n.entries.length=0)
def AB(f:AU)(dir:AA)(name:AD):AA×Int:=
 match Bo f dir with
 |none=>((0,0),2)
 |some n=>if n.kind=2 then
     match n.entries.find? (fun e:BF=>decide (e.1=name))with
     |none=>((0,0),2)
     |some e=>((dir.1,e.2),0)
   else((0,0),20)
def FL(n:Nod):Bool:=
 if n.kind<1∨3<n.kind∨n.mode<0∨511<n.mode∨n.uid<0∨4294967295<n.uid∨n.gid<0∨4294967295<n.gid then false
 else if n.kind=3 then KX n.target else n.target.toList.isEmpty
end Go.Proofs.YtbglbmnhgbgelaaGreatDoor
namespace Go.Proofs.YtbglbmnhgbgelaaGreatDoor
def Ey(a b:AD):Bool:=Op.bytesLess a.toList b.toList
def Ft(name:AD)(ino:Int):Bool→List BF→List BF
 |done,[]=>if done then[]else[(name,ino)]
 |done,e::r=>
   (if !done&& !Ey e.1 name then[(name,ino)]else[])++((if e.1=name then[]else[e])++Ft name ino (done|| !Ey e.1 name) r)
def Ch(es:List BF)(name:AD)(ino:Int):List BF:=Ft name ino (ino==0) es
def CS(ino:Int)(es:List BF):Nat:=es.countP fun e:BF=>e.2==ino
def Bg(ino:Int)(ns:List Nod):Nat:=CS ino (ns.flatMap fun n=>n.entries)
def Gj(f:AU)(at_:AA):Nat:=
 match Bo f at_,Ec f at_.1 with
 |some _,some d=>Bg at_.2 d.nodes
 |_,_=>0
theorem QL{ino:Int}{es:List BF}{k:Nat}{e:BF}(h:es[k]?=some e):CS ino (es.take (k+1))=CS ino (es.take k)+(if e.2==ino then 1 else 0):=by
 unfold CS;rw[List.take_add_one,h,List.countP_append];simp[List.countP_cons]
theorem Yq(ino:Int)(es:List BF):CS ino es≤es.length:=List.countP_le_length
theorem Yr{ino:Int}{ns:List Nod}{m:Nat}{n:Nod}(h:ns[m]?=some n):Bg ino (ns.take (m+1))=Bg ino (ns.take m)+CS ino n.entries:=by
 unfold Bg CS;rw[List.take_add_one,h,List.flatMap_append,List.countP_append];simp
def Ct(ino:Int)(ns:List Nod):List Nod:=ns.filter fun n=>n.ino != ino
def OU:Nod:=⟨1,2,493,0,0,1,⟨#[]⟩,[]⟩
def LL:Dvc:=⟨2,[OU]⟩
def En(n:Int):AU×Int:=if n<1∨3<n then([],50)else(List.replicate n.toNat LL,0)
abbrev Cp:=AU×List BW×Int
def Eo(n:Nod)(next dirIno:Int):Nod:=⟨next,n.kind,n.mode,n.uid,n.gid,if n.kind=2 then dirIno else 0,n.target,[]⟩
end Go.Proofs.YtbglbmnhgbgelaaGreatDoor
namespace Go.Proofs.YtbglbmnhgbgelaaGreatDoor
open Go.RowKit
theorem Cu{α:Type}(enc:α→List AV){l:List α}{k:Nat}(h:(k:Int)<((l.map enc).length:Int)):k<l.length∧∃x,l[k]?=some x∧(l.map enc)[k]?=some (enc x)∧(l.take (k+1)).map enc=(l.take k).map enc++[enc x]:=by
 have hk:k<l.length:=by simpa using h
 refine⟨hk,l[k],B9 hk,by simp[hk],?_⟩;rw[List.take_succ_eq_append_getElem hk,List.map_append];rfl
theorem D0{α:Type}(enc:α→List AV){l:List α}{k:Nat}(hk:k≤l.length)(h:¬(k:Int)<((l.map enc).length:Int)):k=l.length:=by
 simp at h;omega
theorem vb{a b:Bool}(h:a=b):AV.v (.bool a)=AV.v (.bool b):=by rw[h]
theorem vi{k:IntKind}{a b:Int}(h:a=b):AV.v (.int k a)=AV.v (.int k b):=by rw[h]
def AE(x:AA):List AV:=[.v (.int .i64 x.1), .v (.int .i64 x.2)]
def Cf(e:BF):List AV:=[.v (.string e.1), .v (.int .i64 e.2)]
def Ak(n:Nod):List AV:=[.v (.int .i64 n.ino), .v (.int .i64 n.kind), .v (.int .i64 n.mode), .v (.int .i64 n.uid), .v (.int .i64 n.gid), .v (.int .i64 n.parent), .v (.string n.target), .sl 2 (n.entries.map Cf) none]
def C7(d:Dvc):List AV:=[.v (.int .i64 d.next), .sl 8 (d.nodes.map Ak) none]
def Ay(f:AU):List AV:=[.sl 2 (f.map C7) none]
structure FlsB(f:AU):Prop where
 few:f.length≤1000
 nodes:∀d∈f,d.nodes.length≤1000
 ents:∀d∈f,∀n∈d.nodes,n.entries.length≤1000
theorem QM{f:AU}{a:AA}{k:Nat}{d:Dvc}(hk:a.1=(k:Int))(hd:f[k]?=some d):FV f a=KW (fun n:Nod=>n.ino==a.2) d.nodes:=by
 unfold FV;rw[hk,JN,hd]
def Ah(f:AU)(a:AA):Nod:=(Bo f a).getD Nod.zero
def D1(f:AU)(a:AA):Bool:=(Bo f a).isSome
theorem Gk(f:AU)(a:AA):AT f a=(D1 f a&&decide ((Ah f a).kind=2)):=by
 unfold AT D1 Ah;cases Bo f a<;>simp[Pv]
theorem Mb{f:AU}(hf:FlsB f)(a:AA):(Ah f a).entries.length≤1000:=by
 rcases JO f a with⟨-,h⟩|⟨k,i,d,n, -,h1,h2, -, -,h⟩
 ·simp[Ah,h,Nod.zero]
 simp only[Ah,h,Option.getD_some];exact hf.ents d (Al h1) n (Al h2)
section
theorem Js(f:AU)(a:AA)(hf:FlsB f):AFn prog 78 [.agg (Ay f), .agg (AE a)] (fun r=>r= .v (.int .i64 (FV f a))):=by
 refine enter Tryz.func78 rfl rfl rfl rfl rfl 0 rfl ?_;refine w_ (b_ (h:=b_ (h:=a_ (h:=e_ (q_ (w_ (f_ (h:=l_ (h:=BS (h:=m_ (h:=?_)))))))))));refine B5 false rfl rfl (fun hb1=>?_) (fun hb1=>?_)
 ·have hc1:=bp hb1;refine A3 (h:=A3 (h:=A3 (h:=A3 (h:=A3 (h:=A3 (h:=Ag (h:=e_ (C2 (h:=w_ (a_ (h:=e_ (A4 (A7 (?_))))))))))))));refine AJ ?_;exact vi (by unfold FV;rw[OS (.inl hc1)])
 have hc1:=bp hb1;refine f_ (h:=l_ (h:=f_ (h:=l_ (h:=n_ (h:=GL (h:=Ar (h:=e_ (?_))))))));refine A8 rfl (fun hb2=>?_) (fun hb2=>?_)
 ·have hc2:=bp hb2;refine w_ (a_ (h:=e_ (A4 (A7 (?_)))));refine AJ ?_;exact vi (by unfold FV;rw[OS (.inr (by rw[List.length_map]at hc2;exact hc2))])
 have hc2:=bp hb2;obtain⟨k,hk⟩:=Int.eq_ofNat_of_zero_le (show 0≤a.1 by omega);rw[hk]at hc2;obtain⟨-,d,hd,hrow, -⟩:=Cu C7 (l:=f) (k:=k) (by omega);have hdn:=hf.nodes d (Al hd);refine AN (w_ (f_ (h:=l_ (h:=f_ (h:=l_ (h:=?_))))));refine A6 rfl (Ci (n:=k) rfl rfl hk hrow ?_);refine f_ (h:=l_ (h:=a_ (h:=e_ (q_ (w_ (a_ (h:=e_ (Av (?_)))))))));refine Bq (fun m s=>∃j:Nat,j≤d.nodes.length∧m=d.nodes.length - j∧(∀i y,i<j→d.nodes[i]?=some y→(y.ino==a.2)=false)∧s=⟨look [(3, .bp 1 0),(5, .sl 8 (d.nodes.map Ak) none),(6, .v (.int .i64 (j:Int)))],⟨[Ay f,AE a],[]⟩⟩) (d.nodes.length) ((wk 2 0)) (⟨0,by omega,rfl,fun i y hi=>by omega,rfl⟩) ?_;rintro m s ⟨j,hj,rfl,ha,rfl⟩;refine q_ (w_ (m_ (h:=m_ (h:=n_ (h:=BS (h:=e_ (?_)))))));refine A8 rfl (fun hb3=>?_) (fun hb3=>?_)
 ·have hc3:=bp hb3;obtain⟨hlt,n,hy,hrow2, -⟩:=Cu Ak hc3;refine AN (q_ (Av (q_ (E4 8 (h:=AO 0 (h:=AO 1 (h:=EC 2 (h:=AG 3 (h:=AM 4 (h:=AG 5 (h:=AM 6 (h:=JM 7 (h:=z_ (h:=t_ (?_)))))))))))))));refine A8 rfl (fun hb4=>?_) (fun hb4=>?_)
  ·have hc4:=bp hb4;refine w_ (m_ (h:=a_ (h:=e_ (A4 (AY (A7 (A7 (AY (A7 (?_))))))))));refine AJ ?_;exact vi (by rw[QM hk hd];exact(TY hy (by simpa using hc4) ha).symm)
  have hc4:=bp hb4;refine BM (B8 (t_ (AQ (m_ (h:=BH (h:=a_ (h:=AP (?_))))))));refine AF ?_;refine⟨_,_,?_,⟨j+1,by omega,rfl,EP hy ha (by simpa using hc4),rfl⟩,(wk 2 0)⟩;omega
 have hc3:=bp hb3;have e:=D0 Ak hj hc3;subst e;refine BX (Aw (Aw (BY (t_ (w_ (a_ (h:=e_ (A4 (?_)))))))));refine AJ ?_;exact vi (by rw[QM hk hd];exact(Yp (fun i y hi hy=>ha i y hi hy)).symm)
theorem ED(f:AU)(a:AA)(hf:FlsB f):AFn prog 70 [.agg (Ay f), .agg (AE a)] (fun r=>r= .tup [.agg (Ak (Ah f a)), .v (.bool (D1 f a))]):=by
 refine enter Tryz.func70 rfl rfl rfl rfl rfl 0 rfl ?_;refine w_ (b_ (h:=b_ (h:=AZ (h:=a_ (h:=e_ (w_ (l_ (h:=l_ (h:=?_)))))))));refine A6 rfl (AK (Js f a hf) ?_);rintro r rfl;refine a_ (h:=e_ (q_ (w_ (m_ (h:=BS (h:=e_ (?_)))))));refine A8 rfl (fun hb1=>?_) (fun hb1=>?_)
 ·have hc1:=bp hb1
  have e:Bo f a=none:=by
   rcases JO f a with h|⟨k,i,d,n, -, -, -, -,h, -⟩
   ·exact h.2
   exfalso;omega
  refine w_ (AX (h:=s_ (h:=a_ (h:=e_ (A4 (A7 (?_)))))));refine Am (r:= .tup [.agg (Ak (Ah f a)), .v (.bool (D1 f a))]) none (h5:=?_) (h6:=⟨rfl,rfl,rfl⟩);rw[show Ah f a=Nod.zero by simp[Ah,e],show D1 f a=false by simp[D1,e]];exact(by repeat (first|exact A9 _|exact LeA.nil _|exact LeL.refl _|refine LeA.agg ?_|refine LeA.tup ?_|exact LeL.nil|refine LeL.cons ?_ ?_|exact LeA.any _))
 have hc1:=bp hb1;obtain⟨k,i,d,n,g1,g2,g3,g4,g5,g6⟩:=(JO f a).resolve_left (fun h=>by omega);rw[g5];have hr1:(f.map C7)[k]?=some (C7 d):=by rw[List.getElem?_map,g2];rfl
 have hr2:(d.nodes.map Ak)[i]?=some (Ak n):=by rw[List.getElem?_map,g3];rfl
 have hen:=hf.ents d (Al g2) n (Al g3);refine AN (w_ (f_ (h:=l_ (h:=f_ (h:=l_ (h:=?_))))));refine A6 rfl (Ci (n:=k) rfl rfl g1 hr1 ?_);refine f_ (h:=l_ (h:=m_ (h:=?_)));refine A6 rfl (Ci (n:=i) rfl rfl rfl hr2 ?_);refine l_ (h:=AZ (h:=s_ (h:=e_ (w_ (f_ (h:=l_ (h:=?_)))))))
 first|refine A6 rfl (EO rfl rfl rfl (by simp;omega) (by repeat constructor) ?_)|refine A6 rfl (JF rfl rfl (by simp;omega) (by repeat constructor) ?_)
 refine f_ (h:=s_ (h:=e_ (w_ (l_ (h:=s_ (h:=a_ (h:=e_ (A4 (?_)))))))));refine AJ ?_;rw[show Ah f a=n by simp[Ah,g6],show D1 f a=true by simp[D1,g6]];rfl
theorem Gl(f:AU)(a:AA)(hf:FlsB f):AFn prog 41 [.agg (Ay f), .agg (AE a)] (fun r=>r= .v (.bool (AT f a))):=by
 refine enter Tryz.func41 rfl rfl rfl rfl rfl 0 rfl ?_;refine w_ (b_ (h:=b_ (h:=a_ (h:=e_ (w_ (l_ (h:=l_ (h:=?_))))))));refine A6 rfl (AK (ED f a hf) ?_);rintro r rfl;refine m_ (h:=x_ (h:=x_ (h:=AZ (h:=s_ (h:=a_ (h:=e_ (w_ (m_ (h:=m_ (h:=?_))))))))));refine B5 true rfl rfl (fun hb1=>?_) (fun hb1=>?_)
 ·have hc1:=bp hb1;refine f_ (h:=l_ (h:=AR (h:=Ag (h:=a_ (h:=e_ (A4 (?_)))))));refine AJ ?_;exact vb (by rw[Gk];simp[*])
 have hc1:=bp hb1;refine A3 (h:=A3 (h:=A3 (h:=Ar (h:=a_ (h:=e_ (A4 (?_)))))));refine AJ ?_;exact vb (by rw[Gk];simp[*])
end
theorem Hu{α:Type}{p:α→Bool}{l:List α}{j:Nat}{x:α}(hx:l[j]?=some x)(hp:p x=true)(h:∀i y,i<j→l[i]?=some y→p y=false):l.find? p=some x:=by
 have:=TX hx hp h;rw[←TZ,this]
 simpa using hx
theorem Hv{α:Type}{p:α→Bool}{l:List α}(h:∀i y,i<l.length→l[i]?=some y→p y=false):l.find? p=none:=by
 rw[List.find?_eq_none];intro x hx;obtain⟨i,hi,rfl⟩:=List.mem_iff_getElem.1 hx;simp[h i _ hi (B9 hi)]
theorem Td{f:AU}{a:AA}(h:D1 f a=true):Bo f a=some (Ah f a):=by
 unfold D1 at h;unfold Ah
 cases hn:Bo f a with
 |none=>rw[hn]at h;cases h
 |some n=>rfl
theorem Te{f:AU}{a:AA}(h:D1 f a=false):Bo f a=none:=by
 unfold D1 at h
 cases hn:Bo f a with
 |none=>rfl
 |some n=>rw[hn]at h;cases h
section
theorem Gm(f:AU)(a:AA)(name:AD)(hf:FlsB f):AFn prog 38 [.agg (Ay f), .agg (AE a), .v (.string name)] (fun r=>r= .tup [.agg (AE (AB f a name).1), .v (.int .i64 (AB f a name).2)]):=by
 have hen:=Mb hf a;refine enter Tryz.func38 rfl rfl rfl rfl rfl 0 rfl ?_;refine w_ (b_ (h:=b_ (h:=AZ (h:=a_ (h:=e_ (w_ (l_ (h:=l_ (h:=?_)))))))));refine A6 rfl (AK (ED f a hf) ?_);rintro r rfl;refine m_ (h:=x_ (h:=x_ (h:=AZ (h:=s_ (h:=a_ (h:=e_ (q_ (w_ (m_ (h:=BG (h:=e_ (?_))))))))))));refine A8 rfl (fun hb1=>?_) (fun hb1=>?_)
 ·have hc1:=bp hb1;have e:=Te hc1;refine w_ (AX (h:=s_ (h:=a_ (h:=e_ (A4 (A7 (?_)))))));refine AJ ?_;rw[show AB f a name=((0,0),2) by simp[AB,e]];rfl
 have hc1:=bp hb1;have e:=Td hc1;refine AN (q_ (w_ (f_ (h:=l_ (h:=BV (h:=e_ (?_)))))));refine A8 rfl (fun hb2=>?_) (fun hb2=>?_)
 ·have hc2:=bp hb2;refine w_ (AX (h:=s_ (h:=a_ (h:=e_ (A4 (A7 (?_)))))));refine AJ ?_;rw[show AB f a name=((0,0),20) by simp[AB,e,hc2]];rfl
 have hc2:=bp hb2;refine AN (q_ (w_ (a_ (h:=e_ (Av (?_))))));refine Bq (fun m s=>∃j:Nat,j≤(Ah f a).entries.length∧m=(Ah f a).entries.length - j∧(∀i y,i<j→(Ah f a).entries[i]?=some y→decide (y.1=name)=false)∧s=⟨look [(2, .v (.string name)),(4, .bp 1 0),(6, .bp 2 0),(8, .bp 3 0),(10, .v (.int .i64 (j:Int)))],⟨[Ay f,AE a,[.v (.int .i64 0), .v (.int .i64 0)],Ak (Ah f a)],[]⟩⟩) ((Ah f a).entries.length) ((wk 4 0)) (⟨0,by omega,rfl,fun i y hi=>by omega,rfl⟩) ?_;rintro m s ⟨j,hj,rfl,ha,rfl⟩;refine q_ (w_ (m_ (h:=f_ (h:=l_ (h:=n_ (h:=BS (h:=e_ (?_))))))));refine A8 rfl (fun hb3=>?_) (fun hb3=>?_)
 ·have hc3:=bp hb3;obtain⟨hlt,x,hy,hrow, -⟩:=Cu Cf hc3;refine AN (q_ (Av (w_ (f_ (h:=l_ (h:=m_ (h:=i_ (h:=f_ (h:=l_ (h:=m_ (h:=AR (h:=e_ (?_)))))))))))));refine A8 rfl (fun hb4=>?_) (fun hb4=>?_)
  ·have hc4:=bp hb4;refine q_ (BO ([(0,Ay f),(1,AE a),(3,Ak (Ah f a))]) 11 (h:=AG 0 (h:=AM 1 (h:=AG 2 (h:=AM 3 (h:=AO 4 (h:=EC 5 (h:=AG 6 (h:=AM 7 (h:=Hb 8 (h:=?_)))))))))));refine Aj 9 rfl (Af rfl rfl rfl rfl rfl rfl (by repeat constructor) (by repeat constructor) ?_);refine o_ (h:=BK 10 (h:=z_ (h:=t_ (A4 (AY (A7 (A7 (AY (A7 (?_))))))))));refine AJ ?_;rw[show AB f a name=((a.1,x.2),0) by simp only[AB,e];rw[if_pos (by omega),Hu hy (by simpa using hc4) ha]];rfl
  have hc4:=bp hb4;refine BM (B8 (t_ (AQ (m_ (h:=BH (h:=a_ (h:=AP (?_))))))));refine AF ?_;refine⟨_,_,?_,⟨j+1,by omega,rfl,EP hy ha (by simpa using hc4),rfl⟩,(wk 4 0)⟩;omega
 have hc3:=bp hb3;have e3:=D0 Cf hj hc3;subst e3;refine BX (Aw (Aw (BY (t_ (w_ (AX (h:=s_ (h:=a_ (h:=e_ (A4 (?_)))))))))));refine AJ ?_;rw[show AB f a name=((0,0),2) by simp only[AB,e];rw[if_pos (by omega),Hv ha]];rfl
end
theorem JS{P:Program}{ev:Operand→Option AV}{h:AH}{R:AV→AH→Prop}{d:Option Tmp}{ty:TypeId}{pos:String}{af:Array Edge}{gd:Option (Nat×Bool)}{T:TypeId}{x ix:Operand}{s:ByteArray}{n:Nat}{k:IntKind}{i:Int}(hu:P.underlying T=some .string)
    (hx:ev x=some (.v (.string s))) (hi:ev ix=some (.v (.int k i))) (hn:i=(n:Int)) (hlt:n<s.size) (hR:R (.v (.int .u8 (s[n].toNat:Int))) h):AStep P ⟨d, .index T x ix,ty,pos,af,gd⟩ ev h R:=by
 refine DN (fun _ G w ec _ he=>?_) hR;have h1:=he x (by simp[Op.operands]) _ hx;have h2:=he ix (by simp[Op.operands]) _ hi;simp only[rep]at h1 h2;subst hn;refine⟨.int .u8 (s[n].toNat:Int),?_,by simp only[rep]⟩;have e:s[n]?=some s[n]:=getElem?_pos s n hlt;simp[execOp,h1,h2,Instr.index,asIntOf,run_underlying hu,e]
theorem Jt(s:AD):DT s=if s.size<1∨12<s.size then false else if s=⟨#[46]⟩then false else if s=⟨#[46,46]⟩then false else s.data.toList.all JP:=by
 unfold DT;have e1:=OT s ⟨#[46]⟩;have e2:=OT s ⟨#[46,46]⟩;rw[show(⟨#[46]⟩:ByteArray).toList=[46] by rw[ByteArray.toList_eq]]at e1;rw[show(⟨#[46,46]⟩:ByteArray).toList=[46,46] by rw[ByteArray.toList_eq]]at e2;rw[e1,e2];simp only[decide_eq_true_eq]
theorem Ys{c:UInt8}(h1:¬(c.toNat:Int)=0)(h2:¬(c.toNat:Int)=47):JP c=true:=by
 unfold JP;simp;omega
section
theorem OV(s:AD)(hs:s.size≤100000):AFn prog 61 [.v (.string s)] (fun r=>r= .v (.bool (DT s))):=by
 refine enter Tryz.func61 rfl rfl rfl rfl rfl 0 rfl ?_;refine w_ (a_ (h:=e_ (q_ (w_ (m_ (h:=n_ (h:=BS (h:=m_ (h:=?_)))))))));refine B5 false rfl rfl (fun hb1=>?_) (fun hb1=>?_)
 ·have hc1:=bp hb1;refine A3 (h:=A3 (h:=A3 (h:=Ag (h:=m_ (h:=A3 (h:=A3 (h:=Ag (h:=m_ (h:=A3 (h:=A3 (h:=Ag (h:=e_ (C2 (h:=w_ (a_ (h:=e_ (A4 (A7 (?_)))))))))))))))))));refine AJ ?_;exact vb (by rw[Jt,if_pos (by omega)])
 have hc1:=bp hb1;refine m_ (h:=n_ (h:=Ck (h:=Ar (h:=m_ (h:=?_)))));refine B5 false rfl rfl (fun hb2=>?_) (fun hb2=>?_)
 ·have hc2:=bp hb2;refine A3 (h:=A3 (h:=Ag (h:=m_ (h:=A3 (h:=A3 (h:=Ag (h:=e_ (C2 (h:=w_ (a_ (h:=e_ (A4 (A7 (?_))))))))))))));refine AJ ?_;exact vb (by rw[Jt,if_pos (by omega)])
 have hc2:=bp hb2;refine m_ (h:=AR (h:=Ar (h:=m_ (h:=?_))));refine B5 false rfl rfl (fun hb3=>?_) (fun hb3=>?_)
 ·have hc3:=bp hb3;refine A3 (h:=A3 (h:=Ag (h:=e_ (C2 (h:=w_ (a_ (h:=e_ (A4 (A7 (?_))))))))));refine AJ ?_;exact vb (by rw[Jt,if_neg (by omega),if_pos hc3])
 have hc3:=bp hb3;refine m_ (h:=AR (h:=Ar (h:=e_ (?_))));refine A8 rfl (fun hb4=>?_) (fun hb4=>?_)
 ·have hc4:=bp hb4;refine w_ (a_ (h:=e_ (A4 (A7 (?_)))));refine AJ ?_;exact vb (by rw[Jt,if_neg (by omega),if_neg hc3,if_pos hc4])
 have hc4:=bp hb4;refine AN (q_ (w_ (a_ (h:=e_ (Av (?_))))));refine Bq (fun m t=>∃j:Nat,j≤s.size∧m=s.size - j∧(∀i (hi:i<s.size),i<j→JP s[i]=true)∧t=⟨look [(0, .v (.string s)),(3, .v (.int .i64 (j:Int)))],⟨[],[]⟩⟩) (s.size) ((wk 0 0)) (⟨0,by omega,rfl,fun i _ hi=>by omega,rfl⟩) ?_;rintro m t ⟨j,hj,rfl,ha,rfl⟩;refine q_ (w_ (m_ (h:=m_ (h:=n_ (h:=BS (h:=e_ (?_)))))));refine A8 rfl (fun hb5=>?_) (fun hb5=>?_)
 ·have hc5:=bp hb5;have hlt:j<s.size:=by omega
  refine AN (q_ (Av (w_ (m_ (h:=m_ (h:=?_))))));refine A6 rfl (JS (n:=j) Tryz.underlying9 rfl rfl rfl hlt ?_);refine AR (h:=m_ (h:=?_));refine B5 false rfl rfl (fun hb6=>?_) (fun hb6=>?_)
  ·have hc6:=bp hb6;refine A3 (h:=A3 (h:=A3 (h:=A3 (h:=Ag (h:=e_ (C2 (h:=w_ (a_ (h:=e_ (A4 (AY (A7 (A7 (AY (A7 (?_))))))))))))))));refine AJ ?_;exact vb (by rw[Jt,if_neg (by omega),if_neg hc3,if_neg hc4,QK hlt (by unfold JP;simp[hc6])])
  have hc6:=bp hb6;refine m_ (h:=m_ (h:=?_));refine BB (JS (n:=j) Tryz.underlying9 rfl rfl rfl hlt ?_);refine AR (h:=Ar (h:=e_ (?_)));refine A8 rfl (fun hb7=>?_) (fun hb7=>?_)
  ·have hc7:=bp hb7;refine w_ (a_ (h:=e_ (A4 (AY (A7 (A7 (AY (A7 (?_)))))))));refine AJ ?_;exact vb (by rw[Jt,if_neg (by omega),if_neg hc3,if_neg hc4,QK hlt (by unfold JP;simp[hc7])])
  have hc7:=bp hb7;refine BM (B8 (t_ (AQ (m_ (h:=BH (h:=a_ (h:=AP (?_))))))));refine AF ?_;refine⟨_,_,?_,⟨j+1,by omega,rfl,Tc hlt ha (Ys hc6 hc7),rfl⟩,(wk 0 0)⟩;omega
 have hc5:=bp hb5;obtain rfl:j=s.size:=by omega
 refine BX (Aw (Aw (BY (t_ (w_ (a_ (h:=e_ (A4 (?_)))))))));refine AJ ?_;exact vb (by rw[Jt,if_neg (by omega),if_neg hc3,if_neg hc4,Ta (fun i hi=>ha i hi hi)])
end
theorem Yt(f:AU)(a:AA):JQ f a=decide (12≤(Ah f a).entries.length):=by
 unfold JQ Ah;cases Bo f a<;>simp[Nod.zero]
theorem Yu(f:AU)(a:AA):JR f a=decide ((Ah f a).entries.length=0):=by
 unfold JR Ah;cases Bo f a<;>simp[Nod.zero]
theorem Yv{f:AU}{a:AA}{k:Nat}{d:Dvc}{n:Nod}(hk:a.1=(k:Int))(hd:f[k]?=some d)(hn:Bo f a=some n):Gj f a=Bg a.2 d.nodes:=by
 unfold Gj;rw[hn,hk,JN,hd]
section
theorem Yw(s:AD)(hs:s.size≤100000):AFn prog 125 [.v (.string s)] (fun r=>r= .v (.bool (KX s))):=by
 refine enter Tryz.func125 rfl rfl rfl rfl rfl 0 rfl ?_;refine w_ (a_ (h:=e_ (q_ (w_ (a_ (h:=e_ (Av (?_))))))));refine Bq (fun m t=>∃j:Nat,j≤s.size∧m=s.size - j∧(∀i (hi:i<s.size),i<j→(!((s[i].toNat:Int)==0))=true)∧t=⟨look [(0, .v (.string s)),(3, .v (.int .i64 (j:Int)))],⟨[],[]⟩⟩) (s.size) ((wk 0 0)) (⟨0,by omega,rfl,fun i _ hi=>by omega,rfl⟩) ?_;rintro m t ⟨j,hj,rfl,ha,rfl⟩;refine q_ (w_ (m_ (h:=m_ (h:=n_ (h:=BS (h:=e_ (?_)))))));refine A8 rfl (fun hb1=>?_) (fun hb1=>?_)
 ·have hc1:=bp hb1;have hlt:j<s.size:=by omega
  refine AN (q_ (Av (w_ (m_ (h:=m_ (h:=?_))))));refine A6 rfl (JS (n:=j) Tryz.underlying9 rfl rfl rfl hlt ?_);refine AR (h:=e_ (?_));refine A8 rfl (fun hb2=>?_) (fun hb2=>?_)
  ·have hc2:=bp hb2;refine w_ (a_ (h:=e_ (A4 (AY (A7 (A7 (AY (A7 (?_)))))))));refine AJ ?_;exact vb (by unfold KX;rw[QK hlt (by simp[hc2])];simp)
  have hc2:=bp hb2;refine BM (B8 (t_ (AQ (m_ (h:=BH (h:=a_ (h:=AP (?_))))))));refine AF ?_;refine⟨_,_,?_,⟨j+1,by omega,rfl,Tc (p:=fun c=> !((c.toNat:Int)==0)) hlt ha (by simpa using hc2),rfl⟩,(wk 0 0)⟩;omega
 have hc1:=bp hb1;obtain rfl:j=s.size:=by omega
 have hal:=Ta (p:=fun c=> !((c.toNat:Int)==0)) (fun i hi=>ha i hi hi);refine BX (Aw (Aw (BY (t_ (w_ (m_ (h:=n_ (h:=GL (h:=m_ (h:=?_))))))))));refine B5 true rfl rfl (fun hb3=>?_) (fun hb3=>?_)
 ·have hc3:=bp hb3;refine m_ (h:=n_ (h:=Ma (h:=Ag (h:=a_ (h:=e_ (A4 (?_)))))));refine AJ ?_;exact vb (by unfold KX;rw[hal,Bool.eq_iff_iff];simp;omega)
 have hc3:=bp hb3;refine A3 (h:=A3 (h:=A3 (h:=Ar (h:=a_ (h:=e_ (A4 (?_)))))));refine AJ ?_;exact vb (by unfold KX;rw[hal,Bool.eq_iff_iff];simp;omega)
theorem LM(f:AU)(a:AA)(name:AD)(hf:FlsB f)(hs:name.size≤100000):AFn prog 71 [.agg (Ay f), .agg (AE a), .v (.string name)] (fun r=>r= .v (.int .i64 (CC f a name))):=by
 refine enter Tryz.func71 rfl rfl rfl rfl rfl 0 rfl ?_;refine w_ (b_ (h:=b_ (h:=a_ (h:=e_ (w_ (l_ (h:=l_ (h:=?_))))))));refine A6 rfl (AK (ED f a hf) ?_);rintro r rfl;refine m_ (h:=x_ (h:=x_ (h:=AZ (h:=s_ (h:=a_ (h:=e_ (q_ (w_ (m_ (h:=BG (h:=e_ (?_))))))))))));refine A8 rfl (fun hb1=>?_) (fun hb1=>?_)
 ·have hc1:=bp hb1;have e:=Te hc1;refine w_ (a_ (h:=e_ (A4 (A7 (?_)))));refine AJ ?_;exact vi (by simp[CC,e])
 have hc1:=bp hb1;have e:=Td hc1;refine AN (q_ (w_ (f_ (h:=l_ (h:=BV (h:=e_ (?_)))))));refine A8 rfl (fun hb2=>?_) (fun hb2=>?_)
 ·have hc2:=bp hb2;refine w_ (a_ (h:=e_ (A4 (A7 (?_)))));refine AJ ?_;exact vi (by simp[CC,e,hc2])
 have hc2:=bp hb2;refine AN (q_ (w_ (m_ (h:=?_))));refine A6 rfl (AK (OV name hs) ?_);rintro r rfl;refine BG (h:=e_ (?_));refine A8 rfl (fun hb3=>?_) (fun hb3=>?_)
 ·have hc3:=bp hb3;refine w_ (a_ (h:=e_ (A4 (A7 (?_)))));refine AJ ?_;exact vi (by simp only[CC,e];rw[if_pos (by omega),hc3];rfl)
 have hc3:=bp hb3;refine AN (w_ (a_ (h:=e_ (A4 (?_)))));refine AJ ?_;exact vi (by simp only[CC,e];rw[if_pos (by omega),hc3];rfl)
theorem QN(f:AU)(a:AA)(hf:FlsB f):AFn prog 75 [.agg (Ay f), .agg (AE a)] (fun r=>r= .v (.bool (JQ f a))):=by
 refine enter Tryz.func75 rfl rfl rfl rfl rfl 0 rfl ?_;refine w_ (b_ (h:=b_ (h:=a_ (h:=e_ (w_ (l_ (h:=l_ (h:=?_))))))));refine A6 rfl (AK (ED f a hf) ?_);rintro r rfl;refine m_ (h:=x_ (h:=x_ (h:=AZ (h:=s_ (h:=a_ (h:=e_ (w_ (f_ (h:=l_ (h:=n_ (h:=GL (h:=a_ (h:=e_ (A4 (?_)))))))))))))));refine AJ ?_;exact vb (by rw[Yt,Bool.eq_iff_iff];simp;omega)
theorem Tf(f:AU)(a:AA)(hf:FlsB f):AFn prog 74 [.agg (Ay f), .agg (AE a)] (fun r=>r= .v (.bool (JR f a))):=by
 refine enter Tryz.func74 rfl rfl rfl rfl rfl 0 rfl ?_;refine w_ (b_ (h:=b_ (h:=a_ (h:=e_ (w_ (l_ (h:=l_ (h:=?_))))))));refine A6 rfl (AK (ED f a hf) ?_);rintro r rfl;refine m_ (h:=x_ (h:=x_ (h:=AZ (h:=s_ (h:=a_ (h:=e_ (w_ (f_ (h:=l_ (h:=n_ (h:=AR (h:=a_ (h:=e_ (A4 (?_)))))))))))))));refine AJ ?_;exact vb (by rw[Yu,Bool.eq_iff_iff];simp)
theorem Tg(n:Nod)(hs:n.target.size≤100000):AFn prog 86 [.agg (Ak n)] (fun r=>r= .v (.bool (FL n))):=by
 have ee:n.target.toList.isEmpty=decide (n.target=⟨#[]⟩):=by
  rw[←OT n.target ⟨#[]⟩,show(⟨#[]⟩:ByteArray).toList=[] by rw[ByteArray.toList_eq]];cases n.target.toList<;>rfl
 refine enter Tryz.func86 rfl rfl rfl rfl rfl 0 rfl ?_;refine w_ (b_ (h:=a_ (h:=e_ (q_ (?_)))));refine Jp (⟨look [(1, .bp 0 0),(40, .v (.bool (decide (n.kind<1∨3<n.kind∨n.mode<0∨511<n.mode∨n.uid<0∨4294967295<n.uid∨n.gid<0∨4294967295<n.gid))))],⟨[Ak n],[]⟩⟩) ?_ ?_
 ·skip
  refine AQ (f_ (h:=l_ (h:=BS (h:=m_ (h:=?_)))));refine B5 false rfl rfl (fun hb1=>?_) (fun hb1=>?_)
  ·have hc1:=bp hb1;refine A3 (h:=A3 (h:=A3 (h:=Ag (h:=m_ (h:=A3 (h:=A3 (h:=A3 (h:=Ag (h:=m_ (h:=A3 (h:=A3 (h:=A3 (h:=Ag (h:=m_ (h:=A3 (h:=A3 (h:=A3 (h:=Ag (h:=m_ (h:=A3 (h:=A3 (h:=A3 (h:=Ag (h:=?_))))))))))))))))))))))));refine m_ (h:=A3 (h:=A3 (h:=A3 (h:=Ag (h:=m_ (h:=A3 (h:=A3 (h:=A3 (h:=Ag (h:=AP (?_)))))))))));refine AF ?_
   first|(exfalso;first|contradiction|omega)|exact Az 1 0 rfl rfl rfl rfl (by repeat (first|exact Sub.nil|refine B0 rfl rfl ?_|refine B2 ?_|refine B3 rfl ?_|refine B4 rfl ?_|(apply Sub.of;(focus exact rfl);(focus exact LeA.of_eq (vb (by rw[Bool.eq_iff_iff];simp;try omega)));(focus exact rfl))))
  have hc1:=bp hb1;refine f_ (h:=l_ (h:=Ck (h:=Ar (h:=m_ (h:=?_)))));refine B5 false rfl rfl (fun hb2=>?_) (fun hb2=>?_)
  ·have hc2:=bp hb2;refine A3 (h:=A3 (h:=A3 (h:=Ag (h:=m_ (h:=A3 (h:=A3 (h:=A3 (h:=Ag (h:=m_ (h:=A3 (h:=A3 (h:=A3 (h:=Ag (h:=m_ (h:=A3 (h:=A3 (h:=A3 (h:=Ag (h:=m_ (h:=A3 (h:=A3 (h:=A3 (h:=Ag (h:=?_))))))))))))))))))))))));refine m_ (h:=A3 (h:=A3 (h:=A3 (h:=Ag (h:=AP (?_))))));refine AF ?_
   first|(exfalso;first|contradiction|omega)|exact Az 1 0 rfl rfl rfl rfl (by repeat (first|exact Sub.nil|refine B0 rfl rfl ?_|refine B2 ?_|refine B3 rfl ?_|refine B4 rfl ?_|(apply Sub.of;(focus exact rfl);(focus exact LeA.of_eq (vb (by rw[Bool.eq_iff_iff];simp;try omega)));(focus exact rfl))))
  have hc2:=bp hb2;refine f_ (h:=l_ (h:=BS (h:=Ar (h:=m_ (h:=?_)))));refine B5 false rfl rfl (fun hb3=>?_) (fun hb3=>?_)
  ·have hc3:=bp hb3;refine A3 (h:=A3 (h:=A3 (h:=Ag (h:=m_ (h:=A3 (h:=A3 (h:=A3 (h:=Ag (h:=m_ (h:=A3 (h:=A3 (h:=A3 (h:=Ag (h:=m_ (h:=A3 (h:=A3 (h:=A3 (h:=Ag (h:=m_ (h:=A3 (h:=A3 (h:=A3 (h:=Ag (h:=?_))))))))))))))))))))))));refine AP (?_);refine AF ?_
   first|(exfalso;first|contradiction|omega)|exact Az 1 0 rfl rfl rfl rfl (by repeat (first|exact Sub.nil|refine B0 rfl rfl ?_|refine B2 ?_|refine B3 rfl ?_|refine B4 rfl ?_|(apply Sub.of;(focus exact rfl);(focus exact LeA.of_eq (vb (by rw[Bool.eq_iff_iff];simp;try omega)));(focus exact rfl))))
  have hc3:=bp hb3;refine f_ (h:=l_ (h:=Ck (h:=Ar (h:=m_ (h:=?_)))));refine B5 false rfl rfl (fun hb4=>?_) (fun hb4=>?_)
  ·have hc4:=bp hb4;refine A3 (h:=A3 (h:=A3 (h:=Ag (h:=m_ (h:=A3 (h:=A3 (h:=A3 (h:=Ag (h:=m_ (h:=A3 (h:=A3 (h:=A3 (h:=Ag (h:=m_ (h:=A3 (h:=A3 (h:=A3 (h:=Ag (h:=AP (?_))))))))))))))))))));refine AF ?_
   first|(exfalso;first|contradiction|omega)|exact Az 1 0 rfl rfl rfl rfl (by repeat (first|exact Sub.nil|refine B0 rfl rfl ?_|refine B2 ?_|refine B3 rfl ?_|refine B4 rfl ?_|(apply Sub.of;(focus exact rfl);(focus exact LeA.of_eq (vb (by rw[Bool.eq_iff_iff];simp;try omega)));(focus exact rfl))))
  have hc4:=bp hb4;refine f_ (h:=l_ (h:=BS (h:=Ar (h:=m_ (h:=?_)))));refine B5 false rfl rfl (fun hb5=>?_) (fun hb5=>?_)
  ·have hc5:=bp hb5;refine A3 (h:=A3 (h:=A3 (h:=Ag (h:=m_ (h:=A3 (h:=A3 (h:=A3 (h:=Ag (h:=m_ (h:=A3 (h:=A3 (h:=A3 (h:=Ag (h:=AP (?_)))))))))))))));refine AF ?_
   first|(exfalso;first|contradiction|omega)|exact Az 1 0 rfl rfl rfl rfl (by repeat (first|exact Sub.nil|refine B0 rfl rfl ?_|refine B2 ?_|refine B3 rfl ?_|refine B4 rfl ?_|(apply Sub.of;(focus exact rfl);(focus exact LeA.of_eq (vb (by rw[Bool.eq_iff_iff];simp;try omega)));(focus exact rfl))))
  have hc5:=bp hb5;refine f_ (h:=l_ (h:=Ck (h:=Ar (h:=m_ (h:=?_)))));refine B5 false rfl rfl (fun hb6=>?_) (fun hb6=>?_)
  ·have hc6:=bp hb6;refine A3 (h:=A3 (h:=A3 (h:=Ag (h:=m_ (h:=A3 (h:=A3 (h:=A3 (h:=Ag (h:=AP (?_))))))))));refine AF ?_
   first|(exfalso;first|contradiction|omega)|exact Az 1 0 rfl rfl rfl rfl (by repeat (first|exact Sub.nil|refine B0 rfl rfl ?_|refine B2 ?_|refine B3 rfl ?_|refine B4 rfl ?_|(apply Sub.of;(focus exact rfl);(focus exact LeA.of_eq (vb (by rw[Bool.eq_iff_iff];simp;try omega)));(focus exact rfl))))
  have hc6:=bp hb6;refine f_ (h:=l_ (h:=BS (h:=Ar (h:=m_ (h:=?_)))));refine B5 false rfl rfl (fun hb7=>?_) (fun hb7=>?_)
  ·have hc7:=bp hb7;refine A3 (h:=A3 (h:=A3 (h:=Ag (h:=AP (?_)))));refine AF ?_
   first|(exfalso;first|contradiction|omega)|exact Az 1 0 rfl rfl rfl rfl (by repeat (first|exact Sub.nil|refine B0 rfl rfl ?_|refine B2 ?_|refine B3 rfl ?_|refine B4 rfl ?_|(apply Sub.of;(focus exact rfl);(focus exact LeA.of_eq (vb (by rw[Bool.eq_iff_iff];simp;try omega)));(focus exact rfl))))
  have hc7:=bp hb7;refine f_ (h:=l_ (h:=Ck (h:=Ar (h:=AP (?_)))));refine AF ?_
  first|(exfalso;first|contradiction|omega)|exact Az 1 0 rfl rfl rfl rfl (by repeat (first|exact Sub.nil|refine B0 rfl rfl ?_|refine B2 ?_|refine B3 rfl ?_|refine B4 rfl ?_|(apply Sub.of;(focus exact rfl);(focus exact LeA.of_eq (vb (by rw[Bool.eq_iff_iff];simp;try omega)));(focus exact rfl))))
 skip
 refine A8 rfl (fun hb8=>?_) (fun hb8=>?_)
 ·have hc8:=bp hb8;refine w_ (a_ (h:=e_ (A4 (A7 (?_)))));refine AJ ?_;exact vb (by rw[FL,if_pos hc8])
 have hc8:=bp hb8;refine AN (q_ (w_ (f_ (h:=l_ (h:=AR (h:=e_ (?_)))))));refine A8 rfl (fun hb9=>?_) (fun hb9=>?_)
 ·have hc9:=bp hb9;refine w_ (f_ (h:=l_ (h:=?_)));refine A6 rfl (AK (Yw n.target hs) ?_);rintro r rfl;refine a_ (h:=e_ (A4 (A7 (?_))));refine AJ ?_;exact vb (by rw[FL,if_neg hc8,if_pos hc9])
 have hc9:=bp hb9;refine AN (w_ (f_ (h:=l_ (h:=AR (h:=a_ (h:=e_ (A4 (?_))))))));refine AJ ?_;exact vb (by rw[FL,if_neg hc8,if_neg hc9,ee])
theorem Yx(f:AU)(a:AA)(hf:FlsB f):AFn prog 122 [.agg (Ay f), .agg (AE a)] (fun r=>r= .v (.int .i64 (Gj f a:Int))):=by
 refine enter Tryz.func122 rfl rfl rfl rfl rfl 0 rfl ?_;refine w_ (b_ (h:=b_ (h:=a_ (h:=e_ (q_ (w_ (l_ (h:=l_ (h:=?_)))))))));refine A6 rfl (AK (Js f a hf) ?_);rintro r rfl;refine BS (h:=e_ (?_));refine A8 rfl (fun hb1=>?_) (fun hb1=>?_)
 ·have hc1:=bp hb1
  have e:Bo f a=none:=by
   rcases JO f a with h|⟨k,i,d,n, -, -, -, -,h, -⟩
   ·exact h.2
   exfalso;omega
  refine w_ (a_ (h:=e_ (A4 (A7 (?_)))));refine AJ ?_;exact vi (by simp[Gj,e])
 have hc1:=bp hb1;obtain⟨k,i,d,n,g1,g2,g3,g4,g5,g6⟩:=(JO f a).resolve_left (fun h=>by omega);have hr1:(f.map C7)[k]?=some (C7 d):=by rw[List.getElem?_map,g2];rfl
 have hdn:=hf.nodes d (Al g2);refine AN (w_ (a_ (h:=e_ (w_ (f_ (h:=l_ (h:=f_ (h:=l_ (h:=?_)))))))));refine A6 rfl (Ci (n:=k) rfl rfl g1 hr1 ?_);refine f_ (h:=l_ (h:=a_ (h:=e_ (q_ (w_ (a_ (h:=e_ (Av (?_)))))))));refine Bq (fun m s=>∃j c:Nat,j≤d.nodes.length∧m=d.nodes.length - j∧c=Bg a.2 (d.nodes.take j)∧c≤1000 * j∧s=⟨look [(3, .bp 1 0),(5, .v (.int .i64 (c:Int))),(6, .sl 8 (d.nodes.map Ak) none),(7, .v (.int .i64 (j:Int)))],⟨[Ay f,AE a],[]⟩⟩) (d.nodes.length) ((wk 2 0)) (⟨0,0,by omega,rfl,rfl,by omega,rfl⟩) ?_;rintro m s ⟨j,c,hj,rfl,hcn,hcb,rfl⟩;refine q_ (w_ (m_ (h:=m_ (h:=n_ (h:=BS (h:=e_ (?_)))))));refine A8 rfl (fun hb2=>?_) (fun hb2=>?_)
 ·have hc2:=bp hb2;obtain⟨hlt,x,hx,hrow, -⟩:=Cu Ak hc2;have hen:=hf.ents d (Al g2) x (Al hx);refine AN (q_ (Av (w_ (a_ (h:=e_ (Av (?_)))))));refine Bq (fun m s=>∃i c2:Nat,i≤x.entries.length∧m=x.entries.length - i∧c2=c+CS a.2 (x.entries.take i)∧c2≤c+i∧s=⟨look [(3, .bp 1 0),(5, .v (.int .i64 (c2:Int))),(6, .sl 8 (d.nodes.map Ak) none),(7, .v (.int .i64 (j:Int))),(8, .v (.int .i64 (i:Int)))],⟨[Ay f,AE a],[]⟩⟩) (x.entries.length) ((wk 2 0)) (⟨0,c,by omega,rfl,rfl,by omega,rfl⟩) ?_;rintro m s ⟨i,c2,hi,rfl,hc2n,hc2b,rfl⟩;refine q_ (w_ (m_ (h:=m_ (h:=m_ (h:=i_ (h:=f_ (h:=l_ (h:=n_ (h:=BS (h:=e_ (?_)))))))))));refine A8 rfl (fun hb3=>?_) (fun hb3=>?_)
  ·have hc3:=bp hb3;obtain⟨hlt3,y,hy,hrow3, -⟩:=Cu Cf hc3;refine AN (q_ (Av (q_ (E4 12 (h:=AO 0 (h:=AO 1 (h:=EC 2 (h:=AG 3 (h:=AM 4 (h:=AO 5 (h:=EC 6 (h:=AG 7 (h:=AM 8 (h:=AG 9 (h:=AM 10 (h:=JM 11 (h:=z_ (h:=t_ (?_)))))))))))))))))));refine A8 rfl (fun hb4=>?_) (fun hb4=>?_)
   ·have hc4:=bp hb4;refine AQ (m_ (h:=BH (h:=a_ (h:=AP (B8 (t_ (AQ (m_ (h:=BH (h:=a_ (h:=AP (?_))))))))))));refine AF ?_
    (refine⟨_,_,?_,⟨i+1,c2+1,by omega,rfl,?_,by omega,rfl⟩,(wk 2 0)⟩<;>first|omega|(rw[QL hy];simp[hc4];omega))
   have hc4:=bp hb4;refine BM (B8 (t_ (AQ (m_ (h:=BH (h:=a_ (h:=AP (?_))))))));refine AF ?_
   first|(refine⟨_,_,?_,⟨i+1,c2+1,by omega,rfl,?_,by omega,rfl⟩,(wk 2 0)⟩<;>first|omega|(rw[QL hy];simp[hc4];omega))|(refine⟨_,_,?_,⟨i+1,c2,by omega,rfl,?_,by omega,rfl⟩,(wk 2 0)⟩<;>first|omega|(rw[QL hy];simp[hc4];omega))
  have hc3:=bp hb3;have e3:=D0 Cf hi hc3;subst e3;refine BX (Aw (Aw (BY (B8 (t_ (AQ (m_ (h:=BH (h:=a_ (h:=AP (?_)))))))))));refine AF ?_;refine⟨_,_,?_,⟨j+1,c2,by omega,rfl,?_,?_,rfl⟩,(wk 2 0)⟩
  ·omega
  ·rw[hc2n,Yr hx,List.take_length];omega
  have:=Yq a.2 (x.entries.take x.entries.length);simp at this;omega
 have hc2:=bp hb2;have e2:=D0 Ak hj hc2;subst e2;refine BX (Aw (Aw (BY (t_ (w_ (m_ (h:=a_ (h:=e_ (A4 (?_))))))))));refine AJ ?_;exact vi (by rw[Yv g1 g2 g6,hcn,List.take_length])
end
end Go.Proofs.YtbglbmnhgbgelaaGreatDoor
