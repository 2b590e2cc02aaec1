/-
  Part 4 of the proof of FilterSilentP: what the statement's proof uses of the texts in wip/tpl.
-/
import Derived.WalkKit
import Derived.Test.YtbgnigjfkbmceaaGreatDoorQe3
open Go.Proofs.Tryz (prog)
set_option maxRecDepth 10000
set_option maxHeartbeats 4000000
set_option linter.unusedVariables false
set_option linter.unusedSimpArgs false
namespace Go.Proofs.YtbgnigjfkbmceaaGreatDoor
open Go.RowKit
section
variable {P:Program}{N:Dim}{Q:Exit→AS→Prop}{s:AS}
def AC(P:Program)(N:Dim)(y:Code)(Q:Exit→AS→Prop)(s:AS):Prop:=Bp P N y Q s
theorem q_{x y:Code}(h:Bp P N x (Jf (AC P N y Q) Q) s):Bp P N (.seq x y) Q s:=by
 intro E a w hr;refine wp_seq (wp_mono (h E a w hr) ?_);rintro e a' w' ⟨s',hq,hr'⟩
 cases e with
 |normal=>exact hq E a' w' hr'
 |exit id=>exact⟨s',hq,hr'⟩
 |goto l=>exact⟨s',hq,hr'⟩
 |ret=>exact⟨s',hq,hr'⟩
 |panic c=>exact⟨s',hq,hr'⟩
 |outgrown=>exact⟨s',hq,hr'⟩
theorem w_{id:Nat}{l:List Oper}{y:Code}(h:AL P N l.toArray (Jf (AC P N y Q) Q) l s):Bp P N (.seq (.region id l.toArray false) y) Q s:=q_ (Aw h)
theorem t_{y:Code}(h:Bp P N y Q s):Jf (AC P N y Q) Q .normal s:=h
theorem e_{ops:Array Oper}{y:Code}(h:Bp P N y Q s):AL P N ops (Jf (AC P N y Q) Q) [] s:=C4 h
theorem AF{y:Code}(h:Bp P N y Q s):Bp P N .skip (Jf (AC P N y Q) Q) s:=BD h
theorem CX{c:Operand}{x y:Code}{t:Bool}(hc:CQ s.sl c=some (.v (.bool t)):=by rfl)(ht:t=true:=by first|rfl|assumption|simp[*])(h:Bp P N x Q s):Bp P N (.cond c x y) Q s:=Zy hc ht h
theorem Hv{c:Operand}{x y:Code}{t:Bool}(hc:CQ s.sl c=some (.v (.bool t)):=by rfl)(ht:t=false:=by first|rfl|assumption|simp[*])(h:Bp P N y Q s):Bp P N (.cond c x y) Q s:=Zz hc ht h
end
section
variable {P:Program}{N:Dim}{Q:Exit→AS→Prop}{ops:Array Oper}{rest:List Oper}{l:List (Nat×AV)}{hh:AH}{op:Op}{ty:TypeId}{pos:String}{af:Array Edge}
theorem Dc{d j:Nat}{want t:Bool}(hd:Nat.blt d N.n=true:=by rfl)(hy:yv ops (look l) j=some (some t):=by rfl)(ht:(t==want)=false:=by first|rfl|exact Uv ‹_›|exact Uw ‹_›|simp[*])(h:AL P N ops Q rest ⟨look ((d, .v undef)::l),hh⟩):AL P N ops Q (⟨some d,op,ty,pos,af,some (j,want)⟩::rest) ⟨look l,hh⟩:=aA hd hy ht h
theorem MG{d j:Nat}{want:Bool}(hd:Nat.blt d N.n=true:=by rfl)(hy:yv ops (look l) j=some none:=by rfl)(h:AL P N ops Q rest ⟨look ((d, .v undef)::l),hh⟩):AL P N ops Q (⟨some d,op,ty,pos,af,some (j,want)⟩::rest) ⟨look l,hh⟩:=aB hd hy h
end
def KB:List (Nat×List AV)→AH→Prop
 |[],_=>True
 |(i,r)::l,h=>h.bx[i]?=some r∧KB l h
def SN:List (Nat×List AV)→Nat→Option (List AV)
 |[],_=>none
 |(i,r)::l,j=>match Nat.beq i j with
   |true=>some r
   |false=>SN l j
theorem kb:∀{l:List (Nat×List AV)} {h:AH} {i:Nat} {row:List AV},KB l h→SN l i=some row→h.bx[i]?=some row
 |[],_,_,_,_,e=>by cases e
 |(j,r)::l,h,i,row,k,e=>by
   unfold SN at e;split at e
   ·rename_i hb;have:=Nat.eq_of_beq_eq_true hb;subst this;injection e with e;subst e;exact k.1
   exact kb k.2 e
theorem Na(h:AH):KB [] h:=trivial
theorem Nb{l:List (Nat×List AV)}{h:AH}{i:Nat}{r:List AV}(h1:h.bx[i]?=some r)(h2:KB l h):KB ((i,r)::l) h:=⟨h1,h2⟩
def Do(_i:Nat)(B A:Prop):Prop:=B→A
section
variable {P:Program}{N:Dim}{l:List Oper}{Q:Exit→AS→Prop}{S:AH→Prop}{tl fuel:Nat}{listed:Array Bool}{m:List (Nat×AV)}{hh:AH}{op:Op}{ty:TypeId}{pos:String}{af:Array Edge}{gd:Option (Nat×Bool)}
theorem Cz{i d:Nat}{x:AV}(hi:l[i]?=some ⟨some d,op,ty,pos,af,gd⟩)(hst:AStep P ⟨some d,op,ty,pos,af,gd⟩ (CQ (look m)) hh (fun x' h'=>x'=x∧h'=hh))(hd:Nat.blt d N.n=true:=by rfl)(htl:(Kz l.toArray tl listed&& !Nat.ble tl i&&Region.free .any l.toArray listed i&&(Region.ready .any l.toArray listed).contains i)=true:=by kernel_rfl)
    (hw:Cf l.toArray (look m) ⟨some d,op,ty,pos,af,gd⟩=some true:=by first|rfl|exact BM rfl rfl (ET ‹_›)|exact BM rfl rfl (EU ‹_›)|exact BM rfl rfl (by simp[*])):
    Do i (AAny P N l.toArray Q (fun h'=>h'=hh) tl fuel (listed.setIfInBounds i true) ⟨look ((d,x)::m),hh⟩) (AAny P N l.toArray Q (fun h'=>h'=hh) tl (fuel+1) listed ⟨look m,hh⟩):=fun H=>UX hi hd htl hw hst H
theorem D0{K:List (Nat×List AV)}{i d:Nat}{x:AV}(hi:l[i]?=some ⟨some d,op,ty,pos,af,gd⟩)(hst:∀h,KB K h→AStep P ⟨some d,op,ty,pos,af,gd⟩ (CQ (look m)) h (fun x' h'=>x'=x∧h'=h))(hd:Nat.blt d N.n=true:=by rfl)(htl:(Kz l.toArray tl listed&& !Nat.ble tl i&&Region.free .any l.toArray listed i&&(Region.ready .any l.toArray listed).contains i)=true:=by kernel_rfl)
    (hw:Cf l.toArray (look m) ⟨some d,op,ty,pos,af,gd⟩=some true:=by first|rfl|exact BM rfl rfl (ET ‹_›)|exact BM rfl rfl (EU ‹_›)|exact BM rfl rfl (by simp[*])) (hS:KB K hh:=by repeat (first|exact Na _|refine Nb rfl ?_)):
    Do i (AAny P N l.toArray Q (KB K) tl fuel (listed.setIfInBounds i true) ⟨look ((d,x)::m),hh⟩) (AAny P N l.toArray Q (KB K) tl (fuel+1) listed ⟨look m,hh⟩):=fun H=>Ga hi hd htl hw hst hS H
theorem By{K:List (Nat×List AV)}(i:Nat){d:Nat}{x:AV}(hi:l[i]?=some ⟨some d,op,ty,pos,af,gd⟩)(hst:∀h,KB K h→AStep P ⟨some d,op,ty,pos,af,gd⟩ (CQ (look m)) h (fun x' h'=>x'=x∧h'=h))(H:AAny P N l.toArray Q (KB K) tl fuel (listed.setIfInBounds i true) ⟨look ((d,x)::m),hh⟩)(hd:Nat.blt d N.n=true:=by rfl)(htl:(Kz l.toArray tl listed&& !Nat.ble tl i&&Region.free .any l.toArray listed i&&(Region.ready .any l.toArray listed).contains i)=true:=by kernel_rfl)
    (hw:Cf l.toArray (look m) ⟨some d,op,ty,pos,af,gd⟩=some true:=by first|rfl|exact BM rfl rfl (ET ‹_›)|exact BM rfl rfl (EU ‹_›)|exact BM rfl rfl (by simp[*])) (hS:KB K hh:=by repeat (first|exact Na _|refine Nb rfl ?_)):AAny P N l.toArray Q (KB K) tl (fuel+1) listed ⟨look m,hh⟩:=Ga hi hd htl hw hst hS H
theorem BV(i:Nat){d:Nat}(hi:l[i]?=some ⟨some d,op,ty,pos,af,gd⟩:=by rfl)(hd:Nat.blt d N.n=true:=by rfl)(htl:(Kz l.toArray tl listed&& !Nat.ble tl i&&Region.free .any l.toArray listed i&&(Region.ready .any l.toArray listed).contains i)=true:=by kernel_rfl)
    (hw:Cf l.toArray (look m) ⟨some d,op,ty,pos,af,gd⟩=some false:=by first|rfl|exact Rr rfl rfl (Uv ‹_›)|exact Rr rfl rfl (Uw ‹_›)|exact Zf rfl rfl|exact Rr rfl rfl (by simp[*]))
    (hS:S hh:=by first|rfl|(repeat (first|exact Na _|refine Nb rfl ?_))) (h:AAny P N l.toArray Q S tl fuel (listed.setIfInBounds i true) ⟨look ((d, .v undef)::m),hh⟩):AAny P N l.toArray Q S tl (fuel+1) listed ⟨look m,hh⟩:=Za hi hd htl hw hS h
theorem c_(i:Nat){d:Nat}(hi:l[i]?=some ⟨some d,op,ty,pos,af,gd⟩)(H:AStep P ⟨some d,op,ty,pos,af,gd⟩ (CQ (look m)) hh (fun x h'=>(Nat.ble tl i=true∨S h')∧AAny P N l.toArray Q S tl fuel (listed.setIfInBounds i true) ⟨look ((d,x)::m),h'⟩))(hd:Nat.blt d N.n=true:=by rfl)(hr:Region.ready .any l.toArray listed=[i]:=by kernel_rfl)
    (hw:Cf l.toArray (look m) ⟨some d,op,ty,pos,af,gd⟩=some true:=by first|rfl|exact BM rfl rfl (ET ‹_›)|exact BM rfl rfl (EU ‹_›)|exact BM rfl rfl (by simp[*])):AAny P N l.toArray Q S tl (fuel+1) listed ⟨look m,hh⟩:=Zb hi hd hr hw H
theorem H9(i:Nat)(hi:l[i]?=some ⟨none,op,ty,pos,af,gd⟩)(H:AStep P ⟨none,op,ty,pos,af,gd⟩ (CQ (look m)) hh (fun _ h'=>(Nat.ble tl i=true∨S h')∧AAny P N l.toArray Q S tl fuel (listed.setIfInBounds i true) ⟨look m,h'⟩))(hr:Region.ready .any l.toArray listed=[i]:=by kernel_rfl)
    (hw:Cf l.toArray (look m) ⟨none,op,ty,pos,af,gd⟩=some true:=by first|rfl|exact BM rfl rfl (ET ‹_›)|exact BM rfl rfl (EU ‹_›)|exact BM rfl rfl (by simp[*])):AAny P N l.toArray Q S tl (fuel+1) listed ⟨look m,hh⟩:=Zc hi hr hw H
theorem Fb(i j:Nat){di dj:Nat}{op':Op}{ty':TypeId}{pos':String}{af':Array Edge}{gd':Option (Nat×Bool)}(hi:l[i]?=some ⟨some di,op,ty,pos,af,gd⟩)(hj:l[j]?=some ⟨some dj,op',ty',pos',af',gd'⟩)
    (H1:AStep P ⟨some di,op,ty,pos,af,gd⟩ (CQ (look m)) hh (fun x h'=>(Nat.ble tl i=true∨S h')∧AAny P N l.toArray Q S tl fuel (listed.setIfInBounds i true) ⟨look ((di,x)::m),h'⟩))
    (H2:AStep P ⟨some dj,op',ty',pos',af',gd'⟩ (CQ (look m)) hh (fun x h'=>(Nat.ble tl j=true∨S h')∧AAny P N l.toArray Q S tl fuel (listed.setIfInBounds j true) ⟨look ((dj,x)::m),h'⟩))
    (hdi:Nat.blt di N.n=true:=by rfl) (hdj:Nat.blt dj N.n=true:=by rfl) (hr:Region.ready .any l.toArray listed=[i,j]:=by kernel_rfl)
    (hwi:Cf l.toArray (look m) ⟨some di,op,ty,pos,af,gd⟩=some true:=by first|rfl|exact BM rfl rfl (ET ‹_›)|exact BM rfl rfl (EU ‹_›)|exact BM rfl rfl (by simp[*]))
    (hwj:Cf l.toArray (look m) ⟨some dj,op',ty',pos',af',gd'⟩=some true:=by first|rfl|exact BM rfl rfl (ET ‹_›)|exact BM rfl rfl (EU ‹_›)|exact BM rfl rfl (by simp[*])):AAny P N l.toArray Q S tl (fuel+1) listed ⟨look m,hh⟩:=aX hr hi hdi hwi hj hdj hwj H1 H2
theorem o_{i:Nat}{A:Prop}{h':AH}(hS:Nat.ble tl i=true∨S h':=by first|exact .inl rfl|exact .inr rfl|exact .inr (by repeat (first|exact Na _|refine Nb rfl ?_)))(h:A):(Nat.ble tl i=true∨S h')∧A:=⟨hS,h⟩
theorem z_(hr:Region.ready .any l.toArray listed=[]:=by kernel_rfl)(h:Q .normal ⟨look m,hh⟩):AAny P N l.toArray Q S tl fuel listed ⟨look m,hh⟩:=Ze hr h fuel
theorem Dd(tl:Nat){id:Nat}(hm:P.follows .mixedOrders=true:=by kernel_rfl)(h:AAny P N l.toArray Q (fun h'=>h'=hh) tl l.length (Array.replicate l.length false) ⟨look m,hh⟩):Bp P N (.region id l.toArray true) Q ⟨look m,hh⟩:=Zd tl hm h
theorem BO(K:List (Nat×List AV))(tl:Nat){id:Nat}(hm:P.follows .mixedOrders=true:=by kernel_rfl)(h:AAny P N l.toArray Q (KB K) tl l.length (Array.replicate l.length false) ⟨look m,hh⟩):Bp P N (.region id l.toArray true) Q ⟨look m,hh⟩:=Pk _ tl hm h
end
section
variable {P:Program}{rs:List ResultVar}{n:Nat}{R:AV→List (List AV)→List CW→Prop}{s:AS}{xs:List AV}{r:AV}
theorem AU(g:Option Nat){tk':List CW}(h1:ResA P s rs xs:=by repeat (first|exact ResA.nil|(apply ResA.tmp;(focus exact rfl))|(apply ResA.cellN;(focus exact inferInstance);(focus exact rfl);(focus exact rfl);(focus exact rfl))|(apply ResA.cell1;(focus exact inferInstance);(focus exact rfl);(focus exact rfl);(focus exact rfl))))(h2:M9 s.h.tk g=some tk':=by rfl)(h3:AP n 1 (EE g (Fu xs))=true:=by rfl)(h4:AW n 0 (s.h.bx.take n)=true:=by rfl)(h5:LeA (EE g (Fu xs)) r)(h6:R r (s.h.bx.take n) tk'):MA P rs n R .ret s:=QG g h1 h2 h3 h4 h5 h6
theorem Qf(g:Option Nat){tk':List CW}(h1:ResA P s rs xs:=by repeat (first|exact ResA.nil|(apply ResA.tmp;(focus exact rfl))|(apply ResA.cellN;(focus exact inferInstance);(focus exact rfl);(focus exact rfl);(focus exact rfl))|(apply ResA.cell1;(focus exact inferInstance);(focus exact rfl);(focus exact rfl);(focus exact rfl))))(h2:M9 s.h.tk g=some tk':=by rfl)(h3:AP n 1 (EE g (Fu xs))=true:=by rfl)(h4:AW n 0 (s.h.bx.take n)=true:=by rfl)(h5:LeA (EE g (Fu xs)) r)(h6:R r (s.h.bx.take n) tk'):MA P rs n R .normal s:=Zt g h1 h2 h3 h4 h5 h6
end
theorem m_{A B:Prop}(k:B→A:=by intro b;first|exact A3 rfl (L3 rfl b)|exact Aq (L3 rfl b))(h:B):A:=k h
theorem AG(i:Nat){A B:Prop}(k:Do i B A:=by first|exact Cz rfl (L3 rfl ⟨rfl,rfl⟩)|exact D0 rfl (fun _ _=>L3 rfl ⟨rfl,rfl⟩))(h:B):A:=k h
theorem a_{A B:Prop}(k:B→A:=by intro b;first|exact A3 rfl (Hr rfl b)|exact Aq (Hr rfl b))(h:B):A:=k h
theorem BB(i:Nat){A B:Prop}(k:Do i B A:=by first|exact Cz rfl (Hr rfl ⟨rfl,rfl⟩)|exact D0 rfl (fun _ _=>Hr rfl ⟨rfl,rfl⟩))(h:B):A:=k h
theorem f_{A B:Prop}(k:B→A:=by intro b;first|exact A3 rfl (KD rfl b)|exact A3 rfl (Pu rfl b)|exact Aq (KD rfl b)|exact Aq (Pu rfl b))(h:B):A:=k h
theorem AD(i:Nat){A B:Prop}(k:Do i B A:=by first|exact Cz rfl (KD rfl ⟨rfl,rfl⟩)|exact Cz rfl (Pu rfl ⟨rfl,rfl⟩)|exact D0 rfl (fun _ _=>KD rfl ⟨rfl,rfl⟩)|exact D0 rfl (fun _ _=>Pu rfl ⟨rfl,rfl⟩))(h:B):A:=k h
theorem l_{A B:Prop}(k:B→A:=by intro b;first|exact A3 rfl (Dl rfl rfl rfl b)|exact A3 rfl (KE rfl rfl rfl b)|exact A3 rfl (NP rfl rfl b)|exact A3 rfl (Pv rfl rfl b)|exact A3 rfl (M5 rfl rfl rfl b)|exact A3 rfl (OQ rfl rfl b)|exact Aq (Dl rfl rfl rfl b)|exact Aq (KE rfl rfl rfl b)|exact Aq (NP rfl rfl b)|exact Aq (Pv rfl rfl b)|exact Aq (M5 rfl rfl rfl b)|exact Aq (OQ rfl rfl b))(h:B):A:=k h
theorem A9(i:Nat){A B:Prop}(k:Do i B A:=by first|exact Cz rfl (Dl rfl rfl rfl ⟨rfl,rfl⟩)|exact Cz rfl (KE rfl rfl rfl ⟨rfl,rfl⟩)|exact Cz rfl (NP rfl rfl ⟨rfl,rfl⟩)|exact Cz rfl (Pv rfl rfl ⟨rfl,rfl⟩)|exact Cz rfl (M5 rfl rfl rfl ⟨rfl,rfl⟩)|exact Cz rfl (OQ rfl rfl ⟨rfl,rfl⟩)|exact D0 rfl (fun _ hS=>Dl rfl (kb hS rfl) rfl ⟨rfl,rfl⟩)|exact D0 rfl (fun _ hS=>KE rfl (kb hS rfl) rfl ⟨rfl,rfl⟩)|exact D0 rfl (fun _ _=>NP rfl rfl ⟨rfl,rfl⟩)|exact D0 rfl (fun _ _=>Pv rfl rfl ⟨rfl,rfl⟩)|exact D0 rfl (fun _ hS=>M5 rfl (kb hS rfl) rfl ⟨rfl,rfl⟩)|exact D0 rfl (fun _ _=>OQ rfl rfl ⟨rfl,rfl⟩))(h:B):A:=k h
theorem s_{A B:Prop}(k:B→A:=by intro b;exact ME (Ed rfl rfl rfl rfl rfl rfl (by repeat constructor) (by repeat constructor) b))(h:B):A:=k h
theorem b_{A B:Prop}(k:B→A:=by intro b;first|exact A3 rfl (QM rfl rfl (by repeat constructor) b)|exact A3 rfl (Ux rfl rfl (by repeat constructor) b)|exact Aq (QM rfl rfl (by repeat constructor) b)|exact Aq (Ux rfl rfl (by repeat constructor) b))(h:B):A:=k h
theorem CY{A B:Prop}(k:B→A:=by intro b;first|exact A3 rfl (CR (by repeat constructor) b)|exact Aq (CR (by repeat constructor) b))(h:B):A:=k h
theorem n_{A B:Prop}(k:B→A:=by intro b;first|exact A3 rfl (QC rfl b)|exact A3 rfl (QB (by kernel_rfl) rfl b)|exact A3 rfl (QD rfl b)|exact Aq (QC rfl b)|exact Aq (QB (by kernel_rfl) rfl b)|exact Aq (QD rfl b))(h:B):A:=k h
theorem MH(i:Nat){A B:Prop}(k:Do i B A:=by first|exact Cz rfl (QC rfl ⟨rfl,rfl⟩)|exact Cz rfl (QB (by kernel_rfl) rfl ⟨rfl,rfl⟩)|exact Cz rfl (QD rfl ⟨rfl,rfl⟩)|exact D0 rfl (fun _ _=>QC rfl ⟨rfl,rfl⟩)|exact D0 rfl (fun _ _=>QB (by kernel_rfl) rfl ⟨rfl,rfl⟩)|exact D0 rfl (fun _ _=>QD rfl ⟨rfl,rfl⟩))(h:B):A:=k h
theorem Hw{A B:Prop}(k:B→A:=by intro b;first|exact A3 rfl (EF rfl rfl rfl (by simp<;>omega) (by repeat constructor) b)|exact A3 rfl (Ht rfl rfl (by simp<;>omega) (by repeat constructor) b)|exact Aq (EF rfl rfl rfl (by simp<;>omega) (by repeat constructor) b)|exact Aq (Ht rfl rfl (by simp<;>omega) (by repeat constructor) b))(h:B):A:=k h
theorem x_{A B:Prop}(k:B→A:=by intro b;first|exact A3 rfl (Pr rfl rfl b)|exact Aq (Pr rfl rfl b))(h:B):A:=k h
theorem BF(i:Nat){A B:Prop}(k:Do i B A:=by first|exact Cz rfl (Pr rfl rfl ⟨rfl,rfl⟩)|exact D0 rfl (fun _ _=>Pr rfl rfl ⟨rfl,rfl⟩))(h:B):A:=k h
theorem k_{A B:Prop}(k:B→A:=by intro b;first|exact A3 rfl (Ps rfl b)|exact A3 rfl (Pt rfl b)|exact Aq (Ps rfl b)|exact Aq (Pt rfl b))(h:B):A:=k h
theorem BJ(i:Nat){A B:Prop}(k:Do i B A:=by first|exact Cz rfl (Ps rfl ⟨rfl,rfl⟩)|exact Cz rfl (Pt rfl ⟨rfl,rfl⟩)|exact D0 rfl (fun _ _=>Ps rfl ⟨rfl,rfl⟩)|exact D0 rfl (fun _ _=>Pt rfl ⟨rfl,rfl⟩))(h:B):A:=k h
theorem Bi{A B:Prop}(k:B→A:=by intro b;first|exact A3 rfl (OU (by repeat (first|exact FillA.nil _|(apply FillA.cons;(focus exact rfl);(focus exact rfl);(focus exact rfl);(focus exact rfl);(focus exact rfl);(focus (repeat constructor))))) b)|exact Aq (OU (by repeat (first|exact FillA.nil _|(apply FillA.cons;(focus exact rfl);(focus exact rfl);(focus exact rfl);(focus exact rfl);(focus exact rfl);(focus (repeat constructor))))) b))(h:B):A:=k h
theorem JE(i:Nat){A B:Prop}(k:Do i B A:=by first|exact Cz rfl (OU (by repeat (first|exact FillA.nil _|(apply FillA.cons;(focus exact rfl);(focus exact rfl);(focus exact rfl);(focus exact rfl);(focus exact rfl);(focus (repeat constructor))))) ⟨rfl,rfl⟩)|exact D0 rfl (fun _ _=>OU (by repeat (first|exact FillA.nil _|(apply FillA.cons;(focus exact rfl);(focus exact rfl);(focus exact rfl);(focus exact rfl);(focus exact rfl);(focus (repeat constructor))))) ⟨rfl,rfl⟩))(h:B):A:=k h
theorem BY{A B:Prop}(k:B→A:=by intro b;first|exact A3 rfl (OV (by repeat (first|exact DenseA.nil _|(apply DenseA.cons;(focus exact rfl);(focus exact rfl);(focus exact rfl);(focus exact rfl))|(apply DenseA.consE;(focus exact rfl);(focus exact rfl);(focus exact rfl)))) rfl rfl rfl rfl b)|exact Aq (OV (by repeat (first|exact DenseA.nil _|(apply DenseA.cons;(focus exact rfl);(focus exact rfl);(focus exact rfl);(focus exact rfl))|(apply DenseA.consE;(focus exact rfl);(focus exact rfl);(focus exact rfl)))) rfl rfl rfl rfl b))(h:B):A:=k h
theorem Jk(i:Nat){A B:Prop}(k:Do i B A:=by first|exact Cz rfl (OV (by repeat (first|exact DenseA.nil _|(apply DenseA.cons;(focus exact rfl);(focus exact rfl);(focus exact rfl);(focus exact rfl))|(apply DenseA.consE;(focus exact rfl);(focus exact rfl);(focus exact rfl)))) rfl rfl rfl rfl ⟨rfl,rfl⟩)|exact D0 rfl (fun _ _=>OV (by repeat (first|exact DenseA.nil _|(apply DenseA.cons;(focus exact rfl);(focus exact rfl);(focus exact rfl);(focus exact rfl))|(apply DenseA.consE;(focus exact rfl);(focus exact rfl);(focus exact rfl)))) rfl rfl rfl rfl ⟨rfl,rfl⟩))(h:B):A:=k h
theorem CZ{A B:Prop}(k:B→A:=by intro b;first|exact A3 rfl (QW b)|exact Aq (QW b))(h:B):A:=k h
theorem JF(i:Nat){A B:Prop}(k:Do i B A:=by first|exact Cz rfl (QW ⟨rfl,rfl⟩)|exact D0 rfl (fun _ _=>QW ⟨rfl,rfl⟩))(h:B):A:=k h
theorem Bx{A B:Prop}(k:B→A:=by intro b;first|exact A3 rfl (QX b)|exact Aq (QX b))(h:B):A:=k h
theorem Jl(i:Nat){A B:Prop}(k:Do i B A:=by first|exact Cz rfl (QX ⟨rfl,rfl⟩)|exact D0 rfl (fun _ _=>QX ⟨rfl,rfl⟩))(h:B):A:=k h
theorem SO{A B:Prop}(k:B→A:=by intro b;first|exact A3 rfl (UY rfl b)|exact Aq (UY rfl b))(h:B):A:=k h
theorem i_{A B:Prop}(k:B→A:=by intro b;first|exact A3 rfl (D7 rfl rfl rfl (by first|assumption|rfl) b)|exact Aq (D7 rfl rfl rfl (by first|assumption|rfl) b))(h:B):A:=k h
theorem De(i:Nat){A B:Prop}(k:Do i B A:=by first|exact Cz rfl (D7 rfl rfl rfl (by first|assumption|rfl) ⟨rfl,rfl⟩)|exact D0 rfl (fun _ _=>D7 rfl rfl rfl (by first|assumption|rfl) ⟨rfl,rfl⟩))(h:B):A:=k h
theorem aY{A B:Prop}(k:B→A:=by intro b;first|exact A3 rfl (S9 rfl rfl (by omega) (by repeat constructor) b)|exact Aq (S9 rfl rfl (by omega) (by repeat constructor) b))(h:B):A:=k h
theorem DP{A B:Prop}(k:B→A:=by intro b;first|exact A3 rfl (QA rfl b)|exact Aq (QA rfl b))(h:B):A:=k h
theorem aZ(i:Nat){A B:Prop}(k:Do i B A:=by first|exact Cz rfl (QA rfl ⟨rfl,rfl⟩)|exact D0 rfl (fun _ _=>QA rfl ⟨rfl,rfl⟩))(h:B):A:=k h
theorem Fc{A B:Prop}(k:B→A:=by intro b;first|exact A3 rfl (NT rfl rfl (by omega) b)|exact A3 rfl (Gd rfl rfl (by omega) b)|exact A3 rfl (Rz rfl rfl b)|exact Aq (NT rfl rfl (by omega) b)|exact Aq (Gd rfl rfl (by omega) b)|exact Aq (Rz rfl rfl b))(h:B):A:=k h
theorem Kf{A B:Prop}(k:B→A:=by intro b;first|exact A3 rfl (M7 rfl rfl (by omega) b)|exact A3 rfl (OT rfl rfl b)|exact Aq (M7 rfl rfl (by omega) b)|exact Aq (OT rfl rfl b))(h:B):A:=k h
theorem SP(i:Nat){A B:Prop}(k:Do i B A:=by first|exact Cz rfl (M7 rfl rfl (by omega) ⟨rfl,rfl⟩)|exact Cz rfl (OT rfl rfl ⟨rfl,rfl⟩)|exact D0 rfl (fun _ _=>M7 rfl rfl (by omega) ⟨rfl,rfl⟩)|exact D0 rfl (fun _ _=>OT rfl rfl ⟨rfl,rfl⟩))(h:B):A:=k h
theorem b6{A B:Prop}(k:B→A:=by intro b;first|exact A3 rfl (Ue rfl rfl b)|exact Aq (Ue rfl rfl b))(h:B):A:=k h
theorem EG{A B:Prop}(k:B→A:=by intro b;first|exact A3 rfl (Q0 rfl rfl b)|exact A3 rfl (Q6 rfl rfl b)|exact A3 rfl (QP (by kernel_rfl) rfl rfl b)|exact Aq (Q0 rfl rfl b)|exact Aq (Q6 rfl rfl b)|exact Aq (QP (by kernel_rfl) rfl rfl b))(h:B):A:=k h
theorem Jm(i:Nat){A B:Prop}(k:Do i B A:=by first|exact Cz rfl (Q0 rfl rfl ⟨rfl,rfl⟩)|exact Cz rfl (Q6 rfl rfl ⟨rfl,rfl⟩)|exact Cz rfl (QP (by kernel_rfl) rfl rfl ⟨rfl,rfl⟩)|exact D0 rfl (fun _ _=>Q0 rfl rfl ⟨rfl,rfl⟩)|exact D0 rfl (fun _ _=>Q6 rfl rfl ⟨rfl,rfl⟩)|exact D0 rfl (fun _ _=>QP (by kernel_rfl) rfl rfl ⟨rfl,rfl⟩))(h:B):A:=k h
theorem HA{A B:Prop}(k:B→A:=by intro b;first|exact A3 rfl (Q1 rfl rfl b)|exact A3 rfl (Q7 rfl rfl b)|exact A3 rfl (QQ (by kernel_rfl) rfl rfl b)|exact Aq (Q1 rfl rfl b)|exact Aq (Q7 rfl rfl b)|exact Aq (QQ (by kernel_rfl) rfl rfl b))(h:B):A:=k h
theorem Oe(i:Nat){A B:Prop}(k:Do i B A:=by first|exact Cz rfl (Q1 rfl rfl ⟨rfl,rfl⟩)|exact Cz rfl (Q7 rfl rfl ⟨rfl,rfl⟩)|exact Cz rfl (QQ (by kernel_rfl) rfl rfl ⟨rfl,rfl⟩)|exact D0 rfl (fun _ _=>Q1 rfl rfl ⟨rfl,rfl⟩)|exact D0 rfl (fun _ _=>Q7 rfl rfl ⟨rfl,rfl⟩)|exact D0 rfl (fun _ _=>QQ (by kernel_rfl) rfl rfl ⟨rfl,rfl⟩))(h:B):A:=k h
theorem Jn{A B:Prop}(k:B→A:=by intro b;first|exact A3 rfl (Q2 rfl rfl b)|exact A3 rfl (Q8 rfl rfl b)|exact Aq (Q2 rfl rfl b)|exact Aq (Q8 rfl rfl b))(h:B):A:=k h
theorem b7(i:Nat){A B:Prop}(k:Do i B A:=by first|exact Cz rfl (Q2 rfl rfl ⟨rfl,rfl⟩)|exact Cz rfl (Q8 rfl rfl ⟨rfl,rfl⟩)|exact D0 rfl (fun _ _=>Q2 rfl rfl ⟨rfl,rfl⟩)|exact D0 rfl (fun _ _=>Q8 rfl rfl ⟨rfl,rfl⟩))(h:B):A:=k h
theorem Gg{A B:Prop}(k:B→A:=by intro b;first|exact A3 rfl (Q3 rfl rfl b)|exact Aq (Q3 rfl rfl b))(h:B):A:=k h
theorem b8(i:Nat){A B:Prop}(k:Do i B A:=by first|exact Cz rfl (Q3 rfl rfl ⟨rfl,rfl⟩)|exact D0 rfl (fun _ _=>Q3 rfl rfl ⟨rfl,rfl⟩))(h:B):A:=k h
theorem E6{A B:Prop}(k:B→A:=by intro b;first|exact A3 rfl (Q4 rfl rfl b)|exact Aq (Q4 rfl rfl b))(h:B):A:=k h
theorem SQ(i:Nat){A B:Prop}(k:Do i B A:=by first|exact Cz rfl (Q4 rfl rfl ⟨rfl,rfl⟩)|exact D0 rfl (fun _ _=>Q4 rfl rfl ⟨rfl,rfl⟩))(h:B):A:=k h
theorem E7{A B:Prop}(k:B→A:=by intro b;first|exact A3 rfl (Q5 rfl rfl b)|exact A3 rfl (Q9 rfl rfl b)|exact Aq (Q5 rfl rfl b)|exact Aq (Q9 rfl rfl b))(h:B):A:=k h
theorem VK(i:Nat){A B:Prop}(k:Do i B A:=by first|exact Cz rfl (Q5 rfl rfl ⟨rfl,rfl⟩)|exact Cz rfl (Q9 rfl rfl ⟨rfl,rfl⟩)|exact D0 rfl (fun _ _=>Q5 rfl rfl ⟨rfl,rfl⟩)|exact D0 rfl (fun _ _=>Q9 rfl rfl ⟨rfl,rfl⟩))(h:B):A:=k h
theorem Eu{A B:Prop}(k:B→A:=by intro b;first|exact A3 rfl (Uz rfl rfl b)|exact Aq (Uz rfl rfl b))(h:B):A:=k h
theorem at_{A B:Prop}(k:B→A:=by intro b;first|exact A3 rfl (V7 rfl rfl b)|exact Aq (V7 rfl rfl b))(h:B):A:=k h
theorem bA{A B:Prop}(k:B→A:=by intro b;first|exact A3 rfl (V0 rfl rfl b)|exact Aq (V0 rfl rfl b))(h:B):A:=k h
theorem Qg{A B:Prop}(k:B→A:=by intro b;first|exact A3 rfl (V1 rfl rfl (by omega) b)|exact Aq (V1 rfl rfl (by omega) b))(h:B):A:=k h
theorem Bd{f:Nat→Option AV}{bx:List (List AV)}{tk:List (Nat×Nat×List (List AV))}{l:List (Nat×AV)}{N:Dim}(n m:Nat){bx':List (List AV)}{tk':List (Nat×Nat×List (List AV))}(hbp:AW n m bx'=true)(hn:Nat.ble N.ni n=true:=by rfl)(hb:bx.take n=bx':=by rfl)(ht:tk.take m=tk':=by rfl)(hl:Sub n m f l:=by repeat (first|exact Sub.nil|refine Sub.cons _ _ _ rfl rfl ?_|refine Sub.any _ _ ?_|refine Sub.sl _ _ _ _ _ rfl ?_|refine Sub.slnil _ _ _ rfl ?_)):Weak N ⟨f,⟨bx,tk⟩⟩ ⟨look l,⟨bx',tk'⟩⟩:=Ao n m hn hb ht hbp hl
theorem Dn{P:Program}{ev:Operand→Option AV}{h:AH}{R:AV→AH→Prop}{d:Option Tmp}{ty:TypeId}{pos:String}{af:Array Edge}{gd:Option (Nat×Bool)}{T:TypeId}{l:List (Nat×Operand)}{pl:List (Nat×Nat)}{row cs:List AV}[hp:Plc P T pl][hz:Zer P T row](hR:R (.agg cs) h)(hf:FillA pl ev row l cs:=by repeat (first|exact FillA.nil _|(apply FillA.cons;(focus exact rfl);(focus exact rfl);(focus exact rfl);(focus exact rfl);(focus exact rfl);(focus (repeat constructor))))):AStep P ⟨d, .build T l.toArray,ty,pos,af,gd⟩ ev h R:=OU hf hR
theorem Gi{P:Program}{ev:Operand→Option AV}{h:AH}{R:AV→AH→Prop}{o:Oper}{x y:AV}(hs:AStep P o ev h fun r h'=>r=x∧h'=h)(hR:R y h)(hl:LeA x y:=by repeat (first|exact A7 _|exact LeA.nil _|exact LeL.refl _|refine LeA.agg ?_|refine LeA.tup ?_|exact LeL.nil|refine LeL.cons ?_ ?_|exact LeA.any _)):AStep P o ev h R:=H7 hs hl hR
theorem A4{P:Program}{N:Dim}{Q:Exit→AS→Prop}{s:AS}{c:Operand}{x y:Code}{t:Bool}{p q:Prop}[BP t true p][BP t false q](hc:CQ s.sl c=some (.v (.bool t)))(ht:t=true→p→Bp P N x Q s)(hf:t=false→q→Bp P N y Q s):Bp P N (.cond c x y) Q s:=Rm hc (fun h=>ht h (bp h)) (fun h=>hf h (bp h))
theorem AJ{P:Program}{N:Dim}{Q:Exit→AS→Prop}{ops:Array Oper}{rest:List Oper}{l:List (Nat×AV)}{hh:AH}{o:Oper}{j:Nat}{t:Bool}{p q:Prop}[BP t true p][BP t false q](want:Bool)(hg:o.guard=some (j,want))(hy:yv ops (look l) j=some (some t))(h1:t=true→p→AL P N ops Q (o::rest) ⟨look l,hh⟩)(h2:t=false→q→AL P N ops Q (o::rest) ⟨look l,hh⟩):AL P N ops Q (o::rest) ⟨look l,hh⟩:=aD want hg hy (fun h=>h1 h (bp h)) (fun h=>h2 h (bp h))
theorem Ay{n m i:Nat}{r:AV}{bx bx':List (List AV)}{xs:List (List AV)}{Z:List (List AV)→Prop}(h:Z bx')(h1:AP n m r=true:=by rfl)(hs:SetAt bx i xs bx':=by repeat constructor):AP n m r=true∧∃b,SetAt bx i xs b∧Z b:=⟨h1,bx',hs,h⟩
theorem bB{P:Program}{N:Dim}{l:List Oper}{Q:Exit→AS→Prop}{S:AH→Prop}{tl fuel:Nat}{listed:Array Bool}{m:List (Nat×AV)}{ty:TypeId}{pos:String}{af:Array Edge}{gd:Option (Nat×Bool)}{bx bx':List (List AV)}{tk:List CW}{i T sz a o:Nat}{ag:Bool}{x y:Operand}{av:AV}{row row':List AV}[Typ P T sz ag](hi:l[i]?=some ⟨none,.store T x y,ty,pos,af,gd⟩)(hx:CQ (look m) x=some (.bp a o))(hy:CQ (look m) y=some av)(hb:bx[a]?=some row)(h1:Hs (CM av)=true)(hl:Nat.beq (CM av).length sz=true)(hpos:Nat.blt 0 sz=true)(hs:SetAt row o (CM av) row')(hset:SetAt bx a [row'] bx')(hr:Region.ready .any l.toArray listed=[i])(hw:Cf l.toArray (look m) ⟨none,.store T x y,ty,pos,af,gd⟩=some true)(hS:Nat.ble tl i=true∨S ⟨bx',tk⟩):Do i (AAny P N l.toArray Q S tl fuel (listed.setIfInBounds i true) ⟨look m,⟨bx',tk⟩⟩) (AAny P N l.toArray Q S tl (fuel+1) listed ⟨look m,⟨bx,tk⟩⟩):=fun H=>H9 i hi (Ed hx hy hb h1 hl hpos hs hset ⟨hS,H⟩) hr hw
theorem B6(i:Nat){A B:Prop}(k:Do i B A:=by exact bB rfl rfl rfl rfl rfl rfl rfl (by repeat constructor) (by repeat constructor) (by kernel_rfl) (by first|rfl|exact BM rfl rfl (ET ‹_›)|exact BM rfl rfl (EU ‹_›)|exact BM rfl rfl (by simp[*])) (by first|exact .inl rfl|exact .inr rfl|exact .inr (by repeat (first|exact Na _|refine Nb rfl ?_))))(h:B):A:=k h
theorem Df{A:Prop}(h:False:=by first|contradiction|omega):A:=h.elim
structure HsB (B:Prop):Prop where
 h:B
theorem B4{A B:Prop}(k:HsB B→A:=by intro b;exact a_ (h:=e_ (b.1)))(h:B):A:=k ⟨h⟩
theorem Aa{A B:Prop}(k:HsB B→A:=by intro b;exact f_ (h:=l_ (h:=b.1)))(h:B):A:=k ⟨h⟩
theorem B7{A B:Prop}(k:HsB B→A:=by intro b;exact Dc (h:=Dc (h:=b.1)))(h:B):A:=k ⟨h⟩
theorem B8{A B:Prop}(k:HsB B→A:=by intro b;exact B4 (h:=B5 (b.1)))(h:B):A:=k ⟨h⟩
theorem AX{A B:Prop}(k:HsB B→A:=by intro b;exact w_ (m_ (h:=b.1)))(h:B):A:=k ⟨h⟩
theorem HG{A B:Prop}(k:HsB B→A:=by intro b;exact B7 (h:=Dc (h:=b.1)))(h:B):A:=k ⟨h⟩
theorem Jo{A B:Prop}(k:HsB B→A:=by intro b;exact w_ (B8 (h:=b.1)))(h:B):A:=k ⟨h⟩
theorem EW{A B:Prop}(k:HsB B→A:=by intro b;exact EG (h:=B4 (h:=b.1)))(h:B):A:=k ⟨h⟩
theorem Bk{A B:Prop}(k:HsB B→A:=by intro b;exact q_ (AX (h:=b.1)))(h:B):A:=k ⟨h⟩
theorem B0{A B:Prop}(k:HsB B→A:=by intro b;exact w_ (Aa (h:=b.1)))(h:B):A:=k ⟨h⟩
theorem Gj{A B:Prop}(k:HsB B→A:=by intro b;exact HG (h:=CZ (h:=b.1)))(h:B):A:=k ⟨h⟩
theorem BT{A B:Prop}(k:HsB B→A:=by intro b;exact B7 (h:=B7 (h:=b.1)))(h:B):A:=k ⟨h⟩
theorem HL{A B:Prop}(k:HsB B→A:=by intro b;exact Bi (h:=s_ (h:=b.1)))(h:B):A:=k ⟨h⟩
theorem La{A B:Prop}(k:HsB B→A:=by intro b;exact CY (h:=s_ (h:=b.1)))(h:B):A:=k ⟨h⟩
theorem Be{A B:Prop}(k:HsB B→A:=by intro b;exact Bx (h:=m_ (h:=b.1)))(h:B):A:=k ⟨h⟩
theorem C5{A B:Prop}(k:HsB B→A:=by intro b;exact w_ (l_ (h:=b.1)))(h:B):A:=k ⟨h⟩
theorem Bt{A B:Prop}(k:HsB B→A:=by intro b;exact Aw (m_ (h:=b.1)))(h:B):A:=k ⟨h⟩
theorem Bn{A B:Prop}(k:HsB B→A:=by intro b;exact B4 (h:=Bk (h:=b.1)))(h:B):A:=k ⟨h⟩
theorem E8{A B:Prop}(k:HsB B→A:=by intro b;exact B8 (h:=Ba (b.1)))(h:B):A:=k ⟨h⟩
theorem Kg{A B:Prop}(k:HsB B→A:=by intro b;exact x_ (h:=x_ (h:=b.1)))(h:B):A:=k ⟨h⟩
theorem CS{A B:Prop}(k:HsB B→A:=by intro b;exact f_ (h:=s_ (h:=b.1)))(h:B):A:=k ⟨h⟩
theorem Ms{A B:Prop}(k:HsB B→A:=by intro b;exact MG (h:=MG (h:=b.1)))(h:B):A:=k ⟨h⟩
theorem Gk{A B:Prop}(k:HsB B→A:=by intro b;exact a_ (h:=C4 (b.1)))(h:B):A:=k ⟨h⟩
theorem Bu{A B:Prop}(k:HsB B→A:=by intro b;exact B4 (h:=AX (h:=b.1)))(h:B):A:=k ⟨h⟩
theorem Ar{A B:Prop}(k:HsB B→A:=by intro b;exact w_ (EW (h:=b.1)))(h:B):A:=k ⟨h⟩
theorem KJ{A B:Prop}(k:HsB B→A:=by intro b;exact CX (h:=Jo (h:=b.1)))(h:B):A:=k ⟨h⟩
theorem Qh{A B:Prop}(k:HsB B→A:=by intro b;exact Bt (h:=Fc (h:=b.1)))(h:B):A:=k ⟨h⟩
theorem GF{A B:Prop}(k:HsB B→A:=by intro b;exact m_ (h:=Kg (h:=b.1)))(h:B):A:=k ⟨h⟩
theorem D1{A B:Prop}(k:HsB B→A:=by intro b;exact L6 (Ba (b.1)))(h:B):A:=k ⟨h⟩
theorem BA{A B:Prop}(k:HsB B→A:=by intro b;exact B8 (h:=D1 (h:=b.1)))(h:B):A:=k ⟨h⟩
theorem Mt{A B:Prop}(k:HsB B→A:=by intro b;exact Qh (h:=Gk (h:=b.1)))(h:B):A:=k ⟨h⟩
theorem Ef{A B:Prop}(k:HsB B→A:=by intro b;exact w_ (b_ (h:=b.1)))(h:B):A:=k ⟨h⟩
theorem Dp{A B:Prop}(k:HsB B→A:=by intro b;exact f_ (h:=Aa (h:=b.1)))(h:B):A:=k ⟨h⟩
theorem Bh{A B:Prop}(k:HsB B→A:=by intro b;exact Jo (h:=D1 (h:=b.1)))(h:B):A:=k ⟨h⟩
theorem CN{A B:Prop}(k:HsB B→A:=by intro b;exact C5 (h:=l_ (h:=b.1)))(h:B):A:=k ⟨h⟩
theorem Cg{A B:Prop}(k:HsB B→A:=by intro b;exact Gj (h:=m_ (h:=b.1)))(h:B):A:=k ⟨h⟩
theorem Fd{A B:Prop}(k:HsB B→A:=by intro b;exact Ef (h:=b_ (h:=b.1)))(h:B):A:=k ⟨h⟩
theorem Jp{A B:Prop}(k:HsB B→A:=by intro b;exact w_ (HL (h:=b.1)))(h:B):A:=k ⟨h⟩
theorem Bq{A B:Prop}(k:HsB B→A:=by intro b;exact Jp (h:=E8 (h:=b.1)))(h:B):A:=k ⟨h⟩
theorem FC{A B:Prop}(k:HsB B→A:=by intro b;exact GF (h:=La (h:=b.1)))(h:B):A:=k ⟨h⟩
theorem D8{A B:Prop}(k:HsB B→A:=by intro b;exact HG (h:=Bx (h:=b.1)))(h:B):A:=k ⟨h⟩
theorem Bz{A B:Prop}(k:HsB B→A:=by intro b;exact CZ (h:=m_ (h:=b.1)))(h:B):A:=k ⟨h⟩
theorem DG{A B:Prop}(k:HsB B→A:=by intro b;exact w_ (B4 (h:=b.1)))(h:B):A:=k ⟨h⟩
theorem EO{A B:Prop}(k:HsB B→A:=by intro b;exact a_ (h:=E8 (h:=b.1)))(h:B):A:=k ⟨h⟩
theorem C6{A B:Prop}(k:HsB B→A:=by intro b;exact Aa (h:=HA (h:=b.1)))(h:B):A:=k ⟨h⟩
theorem BL{A B:Prop}(k:HsB B→A:=by intro b;exact Jo (h:=Ba (b.1)))(h:B):A:=k ⟨h⟩
theorem BN{A B:Prop}(k:HsB B→A:=by intro b;exact EG (h:=e_ (b.1)))(h:B):A:=k ⟨h⟩
theorem D2{A B:Prop}(k:HsB B→A:=by intro b;exact Jn (h:=e_ (b.1)))(h:B):A:=k ⟨h⟩
theorem Fe{A B:Prop}(k:HsB B→A:=by intro b;exact q_ (B0 (h:=b.1)))(h:B):A:=k ⟨h⟩
theorem CH{A B:Prop}(k:HsB B→A:=by intro b;exact Bx (h:=e_ (b.1)))(h:B):A:=k ⟨h⟩
theorem Qi{A B:Prop}(k:HsB B→A:=by intro b;exact Mt (h:=AT (b.1)))(h:B):A:=k ⟨h⟩
theorem Cs{A B:Prop}(k:HsB B→A:=by intro b;exact Aa (h:=EG (h:=b.1)))(h:B):A:=k ⟨h⟩
theorem Fv{A B:Prop}(k:HsB B→A:=by intro b;exact HG (h:=Be (h:=b.1)))(h:B):A:=k ⟨h⟩
theorem GG{A B:Prop}(k:HsB B→A:=by intro b;exact Aa (h:=n_ (h:=b.1)))(h:B):A:=k ⟨h⟩
theorem D3{A B:Prop}(k:HsB B→A:=by intro b;exact KJ (h:=D1 (h:=b.1)))(h:B):A:=k ⟨h⟩
theorem bC{A B:Prop}(k:HsB B→A:=by intro b;exact t_ (Qi (h:=b.1)))(h:B):A:=k ⟨h⟩
theorem Eg{A B:Prop}(k:HsB B→A:=by intro b;exact BE (bC (h:=b.1)))(h:B):A:=k ⟨h⟩
theorem D9{A B:Prop}(k:HsB B→A:=by intro b;exact m_ (h:=EG (h:=b.1)))(h:B):A:=k ⟨h⟩
theorem Fw{A B:Prop}(k:HsB B→A:=by intro b;exact m_ (h:=i_ (h:=b.1)))(h:B):A:=k ⟨h⟩
theorem DY{A B:Prop}(k:HsB B→A:=by intro b;exact CZ (h:=e_ (b.1)))(h:B):A:=k ⟨h⟩
theorem Bo{A B:Prop}(k:HsB B→A:=by intro b;exact HA (h:=e_ (b.1)))(h:B):A:=k ⟨h⟩
theorem DZ{A B:Prop}(k:HsB B→A:=by intro b;exact Jn (h:=m_ (h:=b.1)))(h:B):A:=k ⟨h⟩
theorem DA{A B:Prop}(k:HsB B→A:=by intro b;exact DP (h:=e_ (b.1)))(h:B):A:=k ⟨h⟩
theorem Dg{A B:Prop}(k:HsB B→A:=by intro b;exact k_ (h:=Dp (h:=b.1)))(h:B):A:=k ⟨h⟩
theorem Dq{A B:Prop}(k:HsB B→A:=by intro b;exact Bk (h:=m_ (h:=b.1)))(h:B):A:=k ⟨h⟩
theorem Dr{A B:Prop}(k:HsB B→A:=by intro b;exact C5 (h:=s_ (h:=b.1)))(h:B):A:=k ⟨h⟩
theorem JG{A B:Prop}(k:HsB B→A:=by intro b;exact FC (h:=Bn (h:=b.1)))(h:B):A:=k ⟨h⟩
theorem Dy{A B:Prop}(k:HsB B→A:=by intro b;exact EG (h:=m_ (h:=b.1)))(h:B):A:=k ⟨h⟩
theorem Nc{A B:Prop}(k:HsB B→A:=by intro b;exact DG (h:=BK (b.1)))(h:B):A:=k ⟨h⟩
theorem E9{A B:Prop}(k:HsB B→A:=by intro b;exact AX (h:=m_ (h:=b.1)))(h:B):A:=k ⟨h⟩
theorem EA{A B:Prop}(k:HsB B→A:=by intro b;exact AX (h:=B8 (h:=b.1)))(h:B):A:=k ⟨h⟩
theorem EH{A B:Prop}(k:HsB B→A:=by intro b;exact Ef (h:=CY (h:=b.1)))(h:B):A:=k ⟨h⟩
theorem Dz{A B:Prop}(k:HsB B→A:=by intro b;exact La (h:=e_ (b.1)))(h:B):A:=k ⟨h⟩
theorem Lb{A B:Prop}(k:HsB B→A:=by intro b;exact Ms (h:=MG (h:=b.1)))(h:B):A:=k ⟨h⟩
theorem EP{A B:Prop}(k:HsB B→A:=by intro b;exact CZ (h:=B4 (h:=b.1)))(h:B):A:=k ⟨h⟩
theorem EQ{A B:Prop}(k:HsB B→A:=by intro b;exact Bt (h:=m_ (h:=b.1)))(h:B):A:=k ⟨h⟩
theorem CT{A B:Prop}(k:HsB B→A:=by intro b;exact Ba (D1 (h:=b.1)))(h:B):A:=k ⟨h⟩
theorem Ca{A B:Prop}(k:HsB B→A:=by intro b;exact q_ (Nc (h:=b.1)))(h:B):A:=k ⟨h⟩
theorem VL{A B:Prop}(k:HsB B→A:=by intro b;exact t_ (Jo (h:=b.1)))(h:B):A:=k ⟨h⟩
theorem Ch{A B:Prop}(k:HsB B→A:=by intro b;exact Gk (h:=AT (b.1)))(h:B):A:=k ⟨h⟩
theorem Eh{A B:Prop}(k:HsB B→A:=by intro b;exact DP (h:=m_ (h:=b.1)))(h:B):A:=k ⟨h⟩
theorem DC{A B:Prop}(k:HsB B→A:=by intro b;exact C4 (AT (b.1)))(h:B):A:=k ⟨h⟩
theorem Ct{A B:Prop}(k:HsB B→A:=by intro b;exact CS (h:=e_ (b.1)))(h:B):A:=k ⟨h⟩
theorem SR{A B:Prop}(k:HsB B→A:=by intro b;exact DY (h:=KJ (h:=b.1)))(h:B):A:=k ⟨h⟩
theorem L8{A B:Prop}(k:HsB B→A:=by intro b;exact Ms (h:=Ms (h:=b.1)))(h:B):A:=k ⟨h⟩
theorem Ew{A B:Prop}(k:HsB B→A:=by intro b;exact Jp (h:=EO (h:=b.1)))(h:B):A:=k ⟨h⟩
theorem DH{A B:Prop}(k:HsB B→A:=by intro b;exact BD (Eg (h:=b.1)))(h:B):A:=k ⟨h⟩
theorem FP{A B:Prop}(k:HsB B→A:=by intro b;exact HA (h:=m_ (h:=b.1)))(h:B):A:=k ⟨h⟩
theorem FQ{A B:Prop}(k:HsB B→A:=by intro b;exact CH (h:=Hv (h:=b.1)))(h:B):A:=k ⟨h⟩
theorem FR{A B:Prop}(k:HsB B→A:=by intro b;exact C5 (h:=m_ (h:=b.1)))(h:B):A:=k ⟨h⟩
theorem DQ{A B:Prop}(k:HsB B→A:=by intro b;exact AF (Fe (h:=b.1)))(h:B):A:=k ⟨h⟩
theorem Ff{A B:Prop}(k:HsB B→A:=by intro b;exact Fd (h:=CY (h:=b.1)))(h:B):A:=k ⟨h⟩
theorem Fg{A B:Prop}(k:HsB B→A:=by intro b;exact a_ (h:=BA (h:=b.1)))(h:B):A:=k ⟨h⟩
theorem Fh{A B:Prop}(k:HsB B→A:=by intro b;exact BT (h:=CZ (h:=b.1)))(h:B):A:=k ⟨h⟩
theorem Fi{A B:Prop}(k:HsB B→A:=by intro b;exact Bx (h:=DC (h:=b.1)))(h:B):A:=k ⟨h⟩
theorem Fx{A B:Prop}(k:HsB B→A:=by intro b;exact Aa (h:=m_ (h:=b.1)))(h:B):A:=k ⟨h⟩
theorem Fy{A B:Prop}(k:HsB B→A:=by intro b;exact B4 (h:=Hv (h:=b.1)))(h:B):A:=k ⟨h⟩
theorem SS{A B:Prop}(k:HsB B→A:=by intro b;exact Bk (h:=GG (h:=b.1)))(h:B):A:=k ⟨h⟩
theorem ST{A B:Prop}(k:HsB B→A:=by intro b;exact Bi (h:=m_ (h:=b.1)))(h:B):A:=k ⟨h⟩
theorem Fz{A B:Prop}(k:HsB B→A:=by intro b;exact B7 (h:=Fv (h:=b.1)))(h:B):A:=k ⟨h⟩
theorem Ds{A B:Prop}(k:HsB B→A:=by intro b;exact AF (Bk (h:=b.1)))(h:B):A:=k ⟨h⟩
theorem GH{A B:Prop}(k:HsB B→A:=by intro b;exact BT (h:=Lb (h:=b.1)))(h:B):A:=k ⟨h⟩
theorem GJ{A B:Prop}(k:HsB B→A:=by intro b;exact o_ (h:=z_ (h:=b.1)))(h:B):A:=k ⟨h⟩
theorem GK{A B:Prop}(k:HsB B→A:=by intro b;exact B7 (h:=Cg (h:=b.1)))(h:B):A:=k ⟨h⟩
theorem SU{A B:Prop}(k:HsB B→A:=by intro b;exact Mi (Ke (b.1)))(h:B):A:=k ⟨h⟩
theorem bD{A B:Prop}(k:HsB B→A:=by intro b;exact SU (h:=Ke (b.1)))(h:B):A:=k ⟨h⟩
theorem Kh{A B:Prop}(k:HsB B→A:=by intro b;exact bD (h:=LW (b.1)))(h:B):A:=k ⟨h⟩
theorem CJ{A B:Prop}(k:HsB B→A:=by intro b;exact Kh (h:=t_ (b.1)))(h:B):A:=k ⟨h⟩
theorem FD{A B:Prop}(k:HsB B→A:=by intro b;exact AF (q_ (b.1)))(h:B):A:=k ⟨h⟩
theorem C0{A B:Prop}(k:HsB B→A:=by intro b;exact FD (h:=BK (b.1)))(h:B):A:=k ⟨h⟩
theorem Gl{A B:Prop}(k:HsB B→A:=by intro b;exact Fd (h:=B4 (h:=b.1)))(h:B):A:=k ⟨h⟩
theorem Gm{A B:Prop}(k:HsB B→A:=by intro b;exact n_ (h:=D2 (h:=b.1)))(h:B):A:=k ⟨h⟩
theorem Gp{A B:Prop}(k:HsB B→A:=by intro b;exact CZ (h:=B8 (h:=b.1)))(h:B):A:=k ⟨h⟩
theorem Gq{A B:Prop}(k:HsB B→A:=by intro b;exact D8 (h:=B8 (h:=b.1)))(h:B):A:=k ⟨h⟩
theorem Gr{A B:Prop}(k:HsB B→A:=by intro b;exact JG (h:=DA (h:=b.1)))(h:B):A:=k ⟨h⟩
theorem Gs{A B:Prop}(k:HsB B→A:=by intro b;exact SS (h:=D2 (h:=b.1)))(h:B):A:=k ⟨h⟩
theorem Gt{A B:Prop}(k:HsB B→A:=by intro b;exact B0 (h:=Fw (h:=b.1)))(h:B):A:=k ⟨h⟩
theorem Gu{A B:Prop}(k:HsB B→A:=by intro b;exact n_ (h:=E6 (h:=b.1)))(h:B):A:=k ⟨h⟩
theorem Gv{A B:Prop}(k:HsB B→A:=by intro b;exact l_ (h:=m_ (h:=b.1)))(h:B):A:=k ⟨h⟩
theorem Gw{A B:Prop}(k:HsB B→A:=by intro b;exact ST (h:=s_ (h:=b.1)))(h:B):A:=k ⟨h⟩
theorem Gx{A B:Prop}(k:HsB B→A:=by intro b;exact k_ (h:=f_ (h:=b.1)))(h:B):A:=k ⟨h⟩
theorem ER{A B:Prop}(k:HsB B→A:=by intro b;exact Gj (h:=e_ (b.1)))(h:B):A:=k ⟨h⟩
theorem HQ{A B:Prop}(k:HsB B→A:=by intro b;exact Kh (h:=VL (h:=b.1)))(h:B):A:=k ⟨h⟩
theorem HU{A B:Prop}(k:HsB B→A:=by intro b;exact B7 (h:=Bx (h:=b.1)))(h:B):A:=k ⟨h⟩
theorem Ha{A B:Prop}(k:HsB B→A:=by intro b;exact CN (h:=m_ (h:=b.1)))(h:B):A:=k ⟨h⟩
theorem EX{A B:Prop}(k:HsB B→A:=by intro b;exact w_ (Bu (h:=b.1)))(h:B):A:=k ⟨h⟩
theorem Hy{A B:Prop}(k:HsB B→A:=by intro b;exact B0 (h:=Aa (h:=b.1)))(h:B):A:=k ⟨h⟩
theorem SV{A B:Prop}(k:HsB B→A:=by intro b;exact BE (VL (h:=b.1)))(h:B):A:=k ⟨h⟩
theorem Hz{A B:Prop}(k:HsB B→A:=by intro b;exact l_ (h:=l_ (h:=b.1)))(h:B):A:=k ⟨h⟩
theorem J0{A B:Prop}(k:HsB B→A:=by intro b;exact Aa (h:=E6 (h:=b.1)))(h:B):A:=k ⟨h⟩
theorem J1{A B:Prop}(k:HsB B→A:=by intro b;exact B4 (h:=Fe (h:=b.1)))(h:B):A:=k ⟨h⟩
theorem J2{A B:Prop}(k:HsB B→A:=by intro b;exact Gj (h:=DC (h:=b.1)))(h:B):A:=k ⟨h⟩
theorem bE{A B:Prop}(k:HsB B→A:=by intro b;exact Fc (h:=m_ (h:=b.1)))(h:B):A:=k ⟨h⟩
theorem J3{A B:Prop}(k:HsB B→A:=by intro b;exact bE (h:=DC (h:=b.1)))(h:B):A:=k ⟨h⟩
theorem JH{A B:Prop}(k:HsB B→A:=by intro b;exact l_ (h:=Dz (h:=b.1)))(h:B):A:=k ⟨h⟩
theorem JJ{A B:Prop}(k:HsB B→A:=by intro b;exact L8 (h:=Dc (h:=b.1)))(h:B):A:=k ⟨h⟩
theorem JK{A B:Prop}(k:HsB B→A:=by intro b;exact n_ (h:=m_ (h:=b.1)))(h:B):A:=k ⟨h⟩
theorem JL{A B:Prop}(k:HsB B→A:=by intro b;exact CZ (h:=DC (h:=b.1)))(h:B):A:=k ⟨h⟩
theorem JM{A B:Prop}(k:HsB B→A:=by intro b;exact Aa (h:=Aa (h:=b.1)))(h:B):A:=k ⟨h⟩
theorem FE{A B:Prop}(k:HsB B→A:=by intro b;exact BD (SV (h:=b.1)))(h:B):A:=k ⟨h⟩
theorem FS{A B:Prop}(k:HsB B→A:=by intro b;exact SR (h:=Ba (b.1)))(h:B):A:=k ⟨h⟩
theorem CK{P:Program}{T z:Nat}{a:Bool}(h:Mj P T=some (z,a):=by kernel_rfl):Typ P T z a:=⟨h⟩
instance :Typ prog 3 1 false:=CK
instance :Typ prog 4 1 false:=CK
instance :Zer prog 4 [.v (.bool false)]:=⟨[.bool false],by kernel_rfl,rfl,rfl⟩
instance :Typ prog 9 1 false:=CK
instance :Typ prog 22 1 false:=CK
instance :Elm prog 22 3 1 8:=⟨by kernel_rfl,by decide⟩
instance :Typ prog 26 2 true:=CK
instance :Zer prog 26 [.v (.int .i64 0), .v (.int .i64 0)]:=⟨[.int .i64 0, .int .i64 0],by kernel_rfl,rfl,rfl⟩
theorem EJ{P:Program}{T:Nat}{l:List (Nat×Nat)}(h:Pq P T=some l:=by kernel_rfl):Plc P T l:=⟨h⟩
instance :Plc prog 26 [(0,1),(1,1)]:=EJ
theorem Az{P:Program}{T i o z:Nat}(h:Po P T i=some (o,z):=by kernel_rfl):Fld P T i o z:=⟨h⟩
instance :Fld prog 26 0 0 1:=Az
instance :Fld prog 26 1 1 1:=Az
instance :Typ prog 27 1 false:=CK
instance :Elm prog 27 291 4 32:=⟨by kernel_rfl,by decide⟩
instance :Typ prog 29 14 true:=CK
instance :Zer prog 29 [.v (.int .i64 0), .v (.int .i64 0), .v (.int .i64 0), .v (.int .i64 0), .v (.int .i64 0), .v (.int .i64 0), .v (.int .i64 0), .v (.int .i64 0), .v (.int .i64 0), .v (.int .i64 0), .v (.string ⟨#[]⟩), .v (.string ⟨#[]⟩), .v (.slice none 0 0), .v (.bool false)]:=⟨[.int .i64 0, .int .i64 0, .int .i64 0, .int .i64 0, .int .i64 0, .int .i64 0, .int .i64 0, .int .i64 0, .int .i64 0, .int .i64 0, .string ⟨#[]⟩, .string ⟨#[]⟩, .slice none 0 0, .bool false],by kernel_rfl,rfl,rfl⟩
instance :Plc prog 29 [(0,1),(1,1),(2,1),(3,1),(4,1),(5,1),(6,1),(7,1),(8,2),(10,1),(11,1),(12,1),(13,1)]:=EJ
instance :Fld prog 29 0 0 1:=Az
instance :Fld prog 29 1 1 1:=Az
instance :Fld prog 29 2 2 1:=Az
instance :Fld prog 29 3 3 1:=Az
instance :Fld prog 29 4 4 1:=Az
instance :Fld prog 29 5 5 1:=Az
instance :Fld prog 29 6 6 1:=Az
instance :Fld prog 29 7 7 1:=Az
instance :Fld prog 29 8 8 2:=Az
instance :Fld prog 29 9 10 1:=Az
instance :Fld prog 29 10 11 1:=Az
instance :Fld prog 29 11 12 1:=Az
instance :Fld prog 29 12 13 1:=Az
instance :Typ prog 30 4 true:=CK
instance :Zer prog 30 [.v (.int .i64 0), .v (.int .i64 0), .v (.int .i64 0), .v (.int .i64 0)]:=⟨[.int .i64 0, .int .i64 0, .int .i64 0, .int .i64 0],by kernel_rfl,rfl,rfl⟩
instance :Plc prog 30 [(0,1),(1,1),(2,1),(3,1)]:=EJ
instance :Typ prog 31 1 false:=CK
instance :Elm prog 31 9 1 16:=⟨by kernel_rfl,by decide⟩
instance :Typ prog 33 7 true:=CK
instance :Zer prog 33 [.v (.int .i64 0), .v (.int .i64 0), .v (.int .i64 0), .v (.int .i64 0), .v (.int .i64 0), .v (.slice none 0 0), .v (.slice none 0 0)]:=⟨[.int .i64 0, .int .i64 0, .int .i64 0, .int .i64 0, .int .i64 0, .slice none 0 0, .slice none 0 0],by kernel_rfl,rfl,rfl⟩
instance :Plc prog 33 [(0,1),(1,4),(5,1),(6,1)]:=EJ
instance :Fld prog 33 0 0 1:=Az
instance :Fld prog 33 1 1 4:=Az
instance :Fld prog 33 2 5 1:=Az
instance :Fld prog 33 3 6 1:=Az
instance :Typ prog 34 1 false:=CK
instance :Elm prog 34 121 13 128:=⟨by kernel_rfl,by decide⟩
instance :Typ prog 36 25 true:=CK
instance :Zer prog 36 [.v (.int .i64 0), .v (.int .i64 0), .v (.int .i64 0), .v (.int .i64 0), .v (.int .i64 0), .v (.int .i64 0), .v (.int .i64 0), .v (.int .i64 0), .v (.int .i64 0), .v (.int .i64 0), .v (.int .i64 0), .v (.string ⟨#[]⟩), .v (.string ⟨#[]⟩), .v (.slice none 0 0), .v (.bool false), .v (.int .i64 0), .v (.int .i64 0), .v (.int .i64 0), .v (.int .i64 0), .v (.int .i64 0), .v (.slice none 0 0), .v (.slice none 0 0), .v (.int .i64 0), .v (.slice none 0 0), .v (.int .i64 0)]:=⟨[.int .i64 0, .int .i64 0, .int .i64 0, .int .i64 0, .int .i64 0, .int .i64 0, .int .i64 0, .int .i64 0, .int .i64 0, .int .i64 0, .int .i64 0, .string ⟨#[]⟩, .string ⟨#[]⟩, .slice none 0 0, .bool false, .int .i64 0, .int .i64 0, .int .i64 0, .int .i64 0, .int .i64 0, .slice none 0 0, .slice none 0 0, .int .i64 0, .slice none 0 0, .int .i64 0],by kernel_rfl,rfl,rfl⟩
instance :Plc prog 36 [(0,1),(1,14),(15,7),(22,1),(23,1),(24,1)]:=EJ
instance :Fld prog 36 0 0 1:=Az
instance :Fld prog 36 1 1 14:=Az
instance :Fld prog 36 2 15 7:=Az
instance :Fld prog 36 3 22 1:=Az
instance :Fld prog 36 4 23 1:=Az
instance :Fld prog 36 5 24 1:=Az
instance :Typ prog 37 1 false:=CK
instance :Elm prog 37 148 2 32:=⟨by kernel_rfl,by decide⟩
instance :Typ prog 39 1 true:=CK
instance :Zer prog 39 [.v (.slice none 0 0)]:=⟨[.slice none 0 0],by kernel_rfl,rfl,rfl⟩
instance :Plc prog 39 [(0,1)]:=EJ
instance :Fld prog 39 0 0 1:=Az
instance :Typ prog 40 1 false:=CK
instance :Elm prog 40 185 3 24:=⟨by kernel_rfl,by decide⟩
instance :Typ prog 42 2 true:=CK
instance :Zer prog 42 [.v (.slice none 0 0), .v (.slice none 0 0)]:=⟨[.slice none 0 0, .slice none 0 0],by kernel_rfl,rfl,rfl⟩
instance :Plc prog 42 [(0,1),(1,1)]:=EJ
instance :Fld prog 42 0 0 1:=Az
instance :Fld prog 42 1 1 1:=Az
instance :Typ prog 43 1 false:=CK
instance :Elm prog 43 29 14 144:=⟨by kernel_rfl,by decide⟩
instance :Typ prog 45 3 true:=CK
instance :Zer prog 45 [.v (.int .i64 0), .v (.int .i64 0), .v (.slice none 0 0)]:=⟨[.int .i64 0, .int .i64 0, .slice none 0 0],by kernel_rfl,rfl,rfl⟩
instance :Plc prog 45 [(0,1),(1,1),(2,1)]:=EJ
instance :Fld prog 45 0 0 1:=Az
instance :Fld prog 45 1 1 1:=Az
instance :Fld prog 45 2 2 1:=Az
instance :Typ prog 47 5 true:=CK
instance :Zer prog 47 [.v (.slice none 0 0), .v (.slice none 0 0), .v (.int .i64 0), .v (.int .i64 0), .v (.slice none 0 0)]:=⟨[.slice none 0 0, .slice none 0 0, .int .i64 0, .int .i64 0, .slice none 0 0],by kernel_rfl,rfl,rfl⟩
instance :Plc prog 47 [(0,2),(2,3)]:=EJ
instance :Fld prog 47 0 0 2:=Az
instance :Fld prog 47 1 2 3:=Az
instance :Typ prog 48 1 false:=CK
instance :Elm prog 48 248 7 64:=⟨by kernel_rfl,by decide⟩
instance :Typ prog 50 5 true:=CK
instance :Zer prog 50 [.v (.int .i64 0), .v (.int .i64 0), .v (.int .i64 0), .v (.slice none 0 0), .v (.slice none 0 0)]:=⟨[.int .i64 0, .int .i64 0, .int .i64 0, .slice none 0 0, .slice none 0 0],by kernel_rfl,rfl,rfl⟩
instance :Plc prog 50 [(0,1),(1,1),(2,1),(3,1),(4,1)]:=EJ
instance :Fld prog 50 0 0 1:=Az
instance :Fld prog 50 1 1 1:=Az
instance :Fld prog 50 2 2 1:=Az
instance :Fld prog 50 3 3 1:=Az
instance :Fld prog 50 4 4 1:=Az
instance :Typ prog 54 1 false:=CK
instance :Elm prog 54 83 8 96:=⟨by kernel_rfl,by decide⟩
instance :Typ prog 57 1 false:=CK
instance :Elm prog 57 4 1 1:=⟨by kernel_rfl,by decide⟩
instance :Typ prog 61 1 false:=CK
instance :Elm prog 61 93 6 56:=⟨by kernel_rfl,by decide⟩
instance :Typ prog 63 2 true:=CK
instance :Zer prog 63 [.v (.slice none 0 0), .v (.slice none 0 0)]:=⟨[.slice none 0 0, .slice none 0 0],by kernel_rfl,rfl,rfl⟩
instance :Plc prog 63 [(0,1),(1,1)]:=EJ
instance :Fld prog 63 0 0 1:=Az
instance :Fld prog 63 1 1 1:=Az
instance :Typ prog 67 3 true:=CK
instance :Zer prog 67 [.v (.bool false), .v (.int .i64 0), .v (.string ⟨#[]⟩)]:=⟨[.bool false, .int .i64 0, .string ⟨#[]⟩],by kernel_rfl,rfl,rfl⟩
instance :Plc prog 67 [(0,1),(1,1),(2,1)]:=EJ
instance :Fld prog 67 0 0 1:=Az
instance :Fld prog 67 1 1 1:=Az
instance :Fld prog 67 2 2 1:=Az
instance :Typ prog 80 1 false:=CK
instance :Typ prog 81 1 false:=CK
instance :Elm prog 81 115 5 48:=⟨by kernel_rfl,by decide⟩
instance :Typ prog 83 8 true:=CK
instance :Zer prog 83 [.v (.int .i64 0), .v (.int .i64 0), .v (.int .u64 0), .v (.slice none 0 0), .v (.int .i64 0), .v (.string ⟨#[]⟩), .v (.int .i64 0), .v (.string ⟨#[]⟩)]:=⟨[.int .i64 0, .int .i64 0, .int .u64 0, .slice none 0 0, .int .i64 0, .string ⟨#[]⟩, .int .i64 0, .string ⟨#[]⟩],by kernel_rfl,rfl,rfl⟩
instance :Plc prog 83 [(0,1),(1,1),(2,1),(3,1),(4,1),(5,1),(6,1),(7,1)]:=EJ
instance :Fld prog 83 0 0 1:=Az
instance :Fld prog 83 1 1 1:=Az
instance :Fld prog 83 2 2 1:=Az
instance :Fld prog 83 3 3 1:=Az
instance :Fld prog 83 4 4 1:=Az
instance :Fld prog 83 5 5 1:=Az
instance :Fld prog 83 6 6 1:=Az
instance :Fld prog 83 7 7 1:=Az
instance :Typ prog 93 6 true:=CK
instance :Zer prog 93 [.v (.int .i64 0), .v (.int .i64 0), .v (.int .i64 0), .v (.string ⟨#[]⟩), .v (.int .i64 0), .v (.int .i64 0)]:=⟨[.int .i64 0, .int .i64 0, .int .i64 0, .string ⟨#[]⟩, .int .i64 0, .int .i64 0],by kernel_rfl,rfl,rfl⟩
instance :Plc prog 93 [(0,1),(1,2),(3,1),(4,2)]:=EJ
instance :Fld prog 93 0 0 1:=Az
instance :Fld prog 93 1 1 2:=Az
instance :Fld prog 93 2 3 1:=Az
instance :Fld prog 93 3 4 2:=Az
instance :Zer prog 105 [.v (.slice none 0 0), .v (.int .i64 0)]:=⟨[.slice none 0 0, .int .i64 0],by kernel_rfl,rfl,rfl⟩
instance :Plc prog 105 [(0,1),(1,1)]:=EJ
instance :Fld prog 105 0 0 1:=Az
instance :Fld prog 105 1 1 1:=Az
instance :Typ prog 115 5 true:=CK
instance :Zer prog 115 [.v (.int .i64 0), .v (.int .i64 0), .v (.int .i64 0), .v (.string ⟨#[]⟩), .v (.int .i64 0)]:=⟨[.int .i64 0, .int .i64 0, .int .i64 0, .string ⟨#[]⟩, .int .i64 0],by kernel_rfl,rfl,rfl⟩
instance :Plc prog 115 [(0,1),(1,1),(2,1),(3,1),(4,1)]:=EJ
instance :Fld prog 115 0 0 1:=Az
instance :Fld prog 115 1 1 1:=Az
instance :Fld prog 115 2 2 1:=Az
instance :Fld prog 115 3 3 1:=Az
instance :Fld prog 115 4 4 1:=Az
instance :Typ prog 121 13 true:=CK
instance :Zer prog 121 [.v (.string ⟨#[]⟩), .v (.string ⟨#[]⟩), .v (.int .i64 0), .v (.int .i64 0), .v (.string ⟨#[]⟩), .v (.int .i64 0), .v (.int .i64 0), .v (.int .i64 0), .v (.int .i64 0), .v (.int .i64 0), .v (.int .i64 0), .v (.int .i64 0), .v (.int .i64 0)]:=⟨[.string ⟨#[]⟩, .string ⟨#[]⟩, .int .i64 0, .int .i64 0, .string ⟨#[]⟩, .int .i64 0, .int .i64 0, .int .i64 0, .int .i64 0, .int .i64 0, .int .i64 0, .int .i64 0, .int .i64 0],by kernel_rfl,rfl,rfl⟩
instance :Plc prog 121 [(0,1),(1,1),(2,2),(4,1),(5,2),(7,1),(8,1),(9,1),(10,1),(11,1),(12,1)]:=EJ
instance :Fld prog 121 2 2 2:=Az
instance :Fld prog 121 3 4 1:=Az
instance :Fld prog 121 4 5 2:=Az
instance :Fld prog 121 5 7 1:=Az
instance :Fld prog 121 6 8 1:=Az
instance :Fld prog 121 7 9 1:=Az
instance :Fld prog 121 8 10 1:=Az
instance :Fld prog 121 9 11 1:=Az
instance :Fld prog 121 10 12 1:=Az
instance :Typ prog 125 1 false:=CK
instance :Typ prog 146 1 false:=CK
instance :Elm prog 146 151 8 88:=⟨by kernel_rfl,by decide⟩
instance :Typ prog 148 2 true:=CK
instance :Zer prog 148 [.v (.int .i64 0), .v (.slice none 0 0)]:=⟨[.int .i64 0, .slice none 0 0],by kernel_rfl,rfl,rfl⟩
instance :Plc prog 148 [(0,1),(1,1)]:=EJ
instance :Fld prog 148 0 0 1:=Az
instance :Fld prog 148 1 1 1:=Az
instance :Typ prog 149 1 false:=CK
instance :Elm prog 149 234 2 24:=⟨by kernel_rfl,by decide⟩
instance :Typ prog 151 8 true:=CK
instance :Zer prog 151 [.v (.int .i64 0), .v (.int .i64 0), .v (.int .i64 0), .v (.int .i64 0), .v (.int .i64 0), .v (.int .i64 0), .v (.string ⟨#[]⟩), .v (.slice none 0 0)]:=⟨[.int .i64 0, .int .i64 0, .int .i64 0, .int .i64 0, .int .i64 0, .int .i64 0, .string ⟨#[]⟩, .slice none 0 0],by kernel_rfl,rfl,rfl⟩
instance :Plc prog 151 [(0,1),(1,1),(2,1),(3,1),(4,1),(5,1),(6,1),(7,1)]:=EJ
instance :Fld prog 151 0 0 1:=Az
instance :Fld prog 151 1 1 1:=Az
instance :Fld prog 151 2 2 1:=Az
instance :Fld prog 151 3 3 1:=Az
instance :Fld prog 151 4 4 1:=Az
instance :Fld prog 151 5 5 1:=Az
instance :Fld prog 151 6 6 1:=Az
instance :Fld prog 151 7 7 1:=Az
instance :Typ prog 157 1 false:=CK
instance :Elm prog 157 200 8 72:=⟨by kernel_rfl,by decide⟩
instance :Zer prog 159 [.v (.slice none 0 0), .v (.slice none 0 0), .v (.int .i64 0), .v (.int .i64 0), .v (.slice none 0 0), .v (.int .i64 0), .v (.int .i64 0), .v (.int .i64 0), .v (.int .i64 0), .v (.int .i64 0), .v (.int .i64 0), .v (.int .i64 0), .v (.int .i64 0), .v (.int .i64 0), .v (.int .i64 0), .v (.string ⟨#[]⟩), .v (.string ⟨#[]⟩), .v (.slice none 0 0), .v (.bool false), .v (.int .i64 0), .v (.int .i64 0), .v (.int .i64 0), .v (.int .i64 0), .v (.int .i64 0), .v (.slice none 0 0), .v (.slice none 0 0), .v (.slice none 0 0), .v (.int .i64 0), .v (.int .i64 0), .v (.int .i64 0), .v (.slice none 0 0), .v (.slice none 0 0)]:=⟨[.slice none 0 0, .slice none 0 0, .int .i64 0, .int .i64 0, .slice none 0 0, .int .i64 0, .int .i64 0, .int .i64 0, .int .i64 0, .int .i64 0, .int .i64 0, .int .i64 0, .int .i64 0, .int .i64 0, .int .i64 0, .string ⟨#[]⟩, .string ⟨#[]⟩, .slice none 0 0, .bool false, .int .i64 0, .int .i64 0, .int .i64 0, .int .i64 0, .int .i64 0, .slice none 0 0, .slice none 0 0, .slice none 0 0, .int .i64 0, .int .i64 0, .int .i64 0, .slice none 0 0, .slice none 0 0],by kernel_rfl,rfl,rfl⟩
instance :Plc prog 159 [(0,5),(5,14),(19,7),(26,1),(27,5)]:=EJ
instance :Fld prog 159 0 0 5:=Az
instance :Fld prog 159 1 5 14:=Az
instance :Fld prog 159 2 19 7:=Az
instance :Fld prog 159 3 26 1:=Az
instance :Fld prog 159 4 27 5:=Az
instance :Zer prog 176 [.v (.int .i64 0), .v (.int .i64 0), .v (.int .i64 0), .v (.int .i64 0)]:=⟨[.int .i64 0, .int .i64 0, .int .i64 0, .int .i64 0],by kernel_rfl,rfl,rfl⟩
instance :Plc prog 176 [(0,2),(2,2)]:=EJ
instance :Typ prog 185 3 true:=CK
instance :Zer prog 185 [.v (.int .i64 0), .v (.int .i64 0), .v (.int .i64 0)]:=⟨[.int .i64 0, .int .i64 0, .int .i64 0],by kernel_rfl,rfl,rfl⟩
instance :Plc prog 185 [(0,1),(1,2)]:=EJ
instance :Fld prog 185 0 0 1:=Az
instance :Fld prog 185 1 1 2:=Az
instance :Typ prog 196 5 true:=CK
instance :Zer prog 196 [.v (.string ⟨#[]⟩), .v (.int .i64 0), .v (.int .i64 0), .v (.int .i64 0), .v (.int .i64 0)]:=⟨[.string ⟨#[]⟩, .int .i64 0, .int .i64 0, .int .i64 0, .int .i64 0],by kernel_rfl,rfl,rfl⟩
instance :Plc prog 196 [(0,1),(1,1),(2,1),(3,1),(4,1)]:=EJ
instance :Fld prog 196 0 0 1:=Az
instance :Fld prog 196 1 1 1:=Az
instance :Fld prog 196 2 2 1:=Az
instance :Fld prog 196 3 3 1:=Az
instance :Fld prog 196 4 4 1:=Az
instance :Typ prog 200 8 true:=CK
instance :Zer prog 200 [.v (.int .i64 0), .v (.int .i64 0), .v (.string ⟨#[]⟩), .v (.int .i64 0), .v (.int .i64 0), .v (.bool false), .v (.bool false), .v (.string ⟨#[]⟩)]:=⟨[.int .i64 0, .int .i64 0, .string ⟨#[]⟩, .int .i64 0, .int .i64 0, .bool false, .bool false, .string ⟨#[]⟩],by kernel_rfl,rfl,rfl⟩
instance :Plc prog 200 [(0,2),(2,1),(3,2),(5,1),(6,1),(7,1)]:=EJ
instance :Fld prog 200 0 0 2:=Az
instance :Fld prog 200 1 2 1:=Az
instance :Fld prog 200 2 3 2:=Az
instance :Fld prog 200 3 5 1:=Az
instance :Fld prog 200 4 6 1:=Az
instance :Fld prog 200 5 7 1:=Az
instance :Typ prog 234 2 true:=CK
instance :Zer prog 234 [.v (.string ⟨#[]⟩), .v (.int .i64 0)]:=⟨[.string ⟨#[]⟩, .int .i64 0],by kernel_rfl,rfl,rfl⟩
instance :Plc prog 234 [(0,1),(1,1)]:=EJ
instance :Fld prog 234 0 0 1:=Az
instance :Fld prog 234 1 1 1:=Az
instance :Elm prog 236 196 5 48:=⟨by kernel_rfl,by decide⟩
instance :Zer prog 248 [.v (.int .i64 0), .v (.int .i64 0), .v (.string ⟨#[]⟩), .v (.int .i64 0), .v (.int .i64 0), .v (.int .i64 0), .v (.int .i64 0)]:=⟨[.int .i64 0, .int .i64 0, .string ⟨#[]⟩, .int .i64 0, .int .i64 0, .int .i64 0, .int .i64 0],by kernel_rfl,rfl,rfl⟩
instance :Plc prog 248 [(0,2),(2,1),(3,2),(5,2)]:=EJ
instance :Fld prog 248 3 5 2:=Az
instance :Elm prog 274 125 1 8:=⟨by kernel_rfl,by decide⟩
instance :Typ prog 291 4 true:=CK
instance :Zer prog 291 [.v (.int .i64 0), .v (.int .i64 0), .v (.int .i64 0), .v (.int .i64 0)]:=⟨[.int .i64 0, .int .i64 0, .int .i64 0, .int .i64 0],by kernel_rfl,rfl,rfl⟩
instance :Plc prog 291 [(0,1),(1,2),(3,1)]:=EJ
instance :Fld prog 291 0 0 1:=Az
instance :Fld prog 291 1 1 2:=Az
theorem AO{P:Program}{f:Nat}(h:QH P f=true:=by kernel_rfl):Fun P f:=⟨h⟩
instance :Fun prog 12:=AO
instance :Fun prog 13:=AO
instance :Fun prog 14:=AO
instance :Fun prog 16:=AO
instance :Fun prog 20:=AO
instance :Fun prog 21:=AO
instance :Fun prog 22:=AO
instance :Fun prog 24:=AO
instance :Fun prog 26:=AO
instance :Fun prog 28:=AO
instance :Fun prog 30:=AO
instance :Fun prog 32:=AO
instance :Fun prog 34:=AO
instance :Fun prog 38:=AO
instance :Fun prog 40:=AO
instance :Fun prog 41:=AO
instance :Fun prog 47:=AO
instance :Fun prog 49:=AO
instance :Fun prog 50:=AO
instance :Fun prog 51:=AO
instance :Fun prog 56:=AO
instance :Fun prog 57:=AO
instance :Fun prog 60:=AO
instance :Fun prog 61:=AO
instance :Fun prog 62:=AO
instance :Fun prog 63:=AO
instance :Fun prog 64:=AO
instance :Fun prog 67:=AO
instance :Fun prog 70:=AO
instance :Fun prog 71:=AO
instance :Fun prog 72:=AO
instance :Fun prog 73:=AO
instance :Fun prog 76:=AO
instance :Fun prog 78:=AO
instance :Fun prog 81:=AO
instance :Fun prog 82:=AO
instance :Fun prog 83:=AO
instance :Fun prog 84:=AO
instance :Fun prog 85:=AO
instance :Fun prog 86:=AO
instance :Fun prog 87:=AO
instance :Fun prog 88:=AO
instance :Fun prog 89:=AO
instance :Fun prog 90:=AO
instance :Fun prog 93:=AO
instance :Fun prog 94:=AO
instance :Fun prog 95:=AO
instance :Fun prog 96:=AO
instance :Fun prog 97:=AO
instance :Fun prog 98:=AO
instance :Fun prog 99:=AO
instance :Fun prog 100:=AO
instance :Fun prog 102:=AO
instance :Fun prog 104:=AO
instance :Fun prog 105:=AO
instance :Fun prog 107:=AO
instance :Fun prog 109:=AO
instance :Fun prog 110:=AO
instance :Fun prog 111:=AO
instance :Fun prog 112:=AO
instance :Fun prog 113:=AO
instance :Fun prog 116:=AO
instance :Fun prog 118:=AO
instance :Fun prog 119:=AO
instance :Fun prog 120:=AO
instance :Fun prog 123:=AO
instance :Fun prog 124:=AO
instance :Fun prog 125:=AO
instance :Fun prog 126:=AO
instance :Fun prog 127:=AO
instance :Fun prog 129:=AO
instance :Fun prog 130:=AO
instance :Fun prog 134:=AO
instance :Fun prog 136:=AO
instance :Fun prog 137:=AO
instance :Fun prog 138:=AO
instance :Fun prog 139:=AO
instance :Fun prog 140:=AO
instance :Fun prog 141:=AO
instance :Fun prog 142:=AO
instance :Fun prog 143:=AO
instance :Fun prog 144:=AO
instance :Fun prog 145:=AO
instance :Fun prog 146:=AO
instance :Fun prog 147:=AO
instance :Fun prog 148:=AO
instance :Fun prog 149:=AO
instance :Fun prog 150:=AO
instance :Fun prog 151:=AO
instance :Fun prog 152:=AO
instance :Fun prog 154:=AO
instance :Fun prog 155:=AO
instance :Fun prog 156:=AO
instance :Fun prog 157:=AO
instance :Fun prog 158:=AO
instance :Fun prog 159:=AO
instance :Fun prog 160:=AO
instance :Fun prog 161:=AO
instance :Fun prog 166:=AO
instance :Fun prog 167:=AO
instance :Fun prog 168:=AO
instance :Fun prog 169:=AO
instance :Fun prog 172:=AO
instance :Fun prog 173:=AO
instance :Fun prog 174:=AO
instance :Fun prog 175:=AO
instance :Fun prog 176:=AO
instance :Fun prog 177:=AO
instance :Fun prog 179:=AO
instance :Fun prog 180:=AO
instance :Fun prog 181:=AO
instance :Fun prog 182:=AO
instance :Fun prog 183:=AO
instance :Fun prog 185:=AO
instance :Fun prog 189:=AO
instance :Fun prog 190:=AO
instance :Fun prog 191:=AO
instance :Fun prog 192:=AO
instance :Fun prog 193:=AO
instance :Fun prog 194:=AO
instance :Fun prog 195:=AO
instance :Fun prog 196:=AO
instance :Fun prog 197:=AO
instance :Fun prog 198:=AO
instance :Fun prog 199:=AO
instance :Fun prog 200:=AO
instance :Fun prog 201:=AO
instance :Fun prog 202:=AO
instance :Fun prog 203:=AO
instance :Fun prog 204:=AO
instance :Fun prog 205:=AO
instance :Fun prog 206:=AO
instance :Fun prog 207:=AO
instance :Fun prog 208:=AO
instance :Fun prog 209:=AO
instance :Fun prog 210:=AO
instance :Fun prog 211:=AO
instance :Fun prog 212:=AO
instance :Fun prog 213:=AO
instance :Fun prog 214:=AO
instance :Fun prog 215:=AO
instance :Fun prog 216:=AO
instance :Fun prog 217:=AO
instance :Fun prog 218:=AO
instance :Fun prog 219:=AO
instance :Fun prog 220:=AO
instance :Fun prog 221:=AO
instance :Fun prog 222:=AO
instance :Fun prog 223:=AO
instance :Fun prog 226:=AO
instance :Fun prog 227:=AO
instance :Fun prog 230:=AO
instance :Fun prog 231:=AO
instance :Fun prog 232:=AO
instance :Fun prog 233:=AO
instance :Fun prog 234:=AO
instance :Fun prog 235:=AO
instance :Fun prog 236:=AO
instance :Fun prog 237:=AO
instance :Fun prog 248:=AO
instance :Fun prog 249:=AO
instance :Fun prog 250:=AO
instance :Fun prog 251:=AO
instance :Fun prog 252:=AO
instance :Fun prog 253:=AO
instance :Fun prog 254:=AO
instance :Fun prog 255:=AO
instance :Fun prog 256:=AO
instance :Fun prog 257:=AO
instance :Fun prog 258:=AO
end Go.Proofs.YtbgnigjfkbmceaaGreatDoor
namespace Go.Proofs.YtbgnigjfkbmceaaGreatDoor
abbrev AE:=ByteArray
abbrev AB:=Int×Int
abbrev BQ:=AE×Int
abbrev E0:=Int×AB
abbrev Lc:=AB×AE×AB×AB
structure Nod where
 ino:Int
 kind:Int
 mode:Int
 uid:Int
 gid:Int
 parent:Int
 target:AE
 entries:List BQ
structure Dvc where
 next:Int
 nodes:List Nod
abbrev AR:=List Dvc
structure Spc where
 files:AR
 mounts:List E0
def Nod.zero:Nod:=⟨0,0,0,0,0,0,⟨#[]⟩,[]⟩
def Mu{α:Type}(p:α→Bool)(l:List α):Int:=
 match l.findIdx? p with
 |some i=>(i:Int)
 |none=> -1
def Fj{α:Type}(l:List α)(i:Int):Option α:=if i<0 then none else l[i.toNat]?
theorem Mv{α:Type}(l:List α)(k:Nat):Fj l (k:Int)=l[k]?:=by
 simp[Fj,show¬((k:Int)<0) by omega]
theorem Qj{α:Type}{l:List α}{i:Int}(h:i<0∨(l.length:Int)≤i):Fj l i=none:=by
 unfold Fj;split
 ·rfl
 rw[List.getElem?_eq_none];omega
theorem bF{α:Type}{l:List α}{i:Int}{x:α}(h:Fj l i=some x):0≤i∧i<l.length∧l[i.toNat]?=some x:=by
 unfold Fj at h;split at h
 ·cases h
 have:=(Ab.1 h).1;exact⟨by omega,by omega,h⟩
theorem VM{α:Type}{p:α→Bool}{l:List α}{m:Nat}{x:α}(hx:l[m]?=some x)(hp:p x=true)(h:∀j y,j<m→l[j]?=some y→p y=false):l.findIdx? p=some m:=by
 have hl:m<l.length:=(Ab.1 hx).1;rw[List.findIdx?_eq_some_iff_getElem];refine⟨hl,by rw[(Ab.1 hx).2];exact hp,fun j hj=>?_⟩;have:=h j l[j] hj (B2 _);simp[this]
theorem VN{α:Type}{p:α→Bool}{l:List α}{m:Nat}{x:α}(hx:l[m]?=some x)(hp:p x=true)(h:∀j y,j<m→l[j]?=some y→p y=false):Mu p l=m:=by
 unfold Mu;rw[VM hx hp h]
theorem bG{α:Type}{p:α→Bool}{l:List α}(h:∀j y,j<l.length→l[j]?=some y→p y=false):Mu p l= -1:=by
 unfold Mu;rw[List.findIdx?_eq_none_iff.2];intro x hx;obtain⟨j,hj,rfl⟩:=List.mem_iff_getElem.1 hx;exact h j _ hj (B2 hj)
theorem GL{α:Type}{P:α→Prop}{l:List α}{m:Nat}{x:α}(hx:l[m]?=some x)(h:∀j y,j<m→l[j]?=some y→P y)(hp:P x):∀j y,j<m+1→l[j]?=some y→P y:=by
 intro j y hj hy;by_cases e:j=m
 ·subst e;rw[hx]at hy;cases hy;exact hp
 exact h j y (by omega) hy
def Hb(f:AR)(at_:AB):Int:=
 match Fj f at_.1 with
 |none=> -1
 |some d=>Mu (fun n:Nod=>n.ino==at_.2) d.nodes
def CE(f:AR)(at_:AB):Option Nod:=
 match Fj f at_.1 with
 |none=>none
 |some d=>d.nodes.find? (fun n:Nod=>n.ino==at_.2)
theorem VO{α:Type}{p:α→Bool}{l:List α}:(l.findIdx? p).bind (fun i=>l[i]?)=l.find? p:=by
 cases h:l.findIdx? p with
 |none=>
   rw[List.findIdx?_eq_none_iff]at h;simp only[Option.bind_none];exact(List.find?_eq_none.2 (fun x hx=>by simp[h x hx])).symm
 |some i=>
   obtain⟨hi,hp,hf⟩:=List.findIdx?_eq_some_iff_getElem.1 h;simp only[Option.bind_some,B2 hi];exact(List.find?_eq_some_iff_getElem.2 ⟨hp,i,hi,rfl,fun j hj=>by simpa using hf j hj⟩).symm
theorem Ld(f:AR)(at_:AB):(Hb f at_= -1∧CE f at_=none)∨
    ∃(k i:Nat) (d:Dvc) (n:Nod),at_.1=k∧f[k]?=some d∧d.nodes[i]?=some n∧n.ino=at_.2∧Hb f at_=i∧CE f at_=some n:=by
 unfold Hb CE
 cases h:Fj f at_.1 with
 |none=>exact .inl ⟨rfl,rfl⟩
 |some d=>
   obtain⟨h0,h1,h2⟩:=bF h;simp only[←VO];unfold Mu
   cases hi:d.nodes.findIdx? (fun n:Nod=>n.ino==at_.2)with
   |none=>exact .inl ⟨rfl,rfl⟩
   |some i=>
     obtain⟨hl,hp,_⟩:=List.findIdx?_eq_some_iff_getElem.1 hi;exact .inr ⟨at_.1.toNat,i,d,d.nodes[i],by omega,h2,B2 hl,by simpa using hp,rfl,by simp⟩
theorem Qk(a b:AE):(a.toList==b.toList)=decide (a=b):=by
 rw[ByteArray.toList_eq,ByteArray.toList_eq,Bool.eq_iff_iff];simp only[beq_iff_eq,decide_eq_true_eq];constructor
 ·intro h
  cases a with
  |mk a=>
    cases b with
    |mk b=>exact congrArg ByteArray.mk (Array.toList_inj.1 h)
 intro h;rw[h]
def Le(c:UInt8):Bool:= !((c.toNat:Int)==0)&& !((c.toNat:Int)==47)
def Hc(s:AE):Bool:=
 if s.size<1∨12<s.size then false else if(s.toList==[46])=true then false else if(s.toList==[46,46])=true then false else s.data.toList.all Le
def Nd(s:AE):Bool:=s.data.toList.all (fun c=> !((c.toNat:Int)==0))&&decide (1≤s.size)&&decide (s.size≤128)
theorem VP{p:UInt8→Bool}{s:AE}(h:∀j (hj:j<s.size),p s[j]=true):s.data.toList.all p=true:=by
 rw[List.all_eq_true];intro c hc;obtain⟨j,hj,rfl⟩:=List.mem_iff_getElem.1 hc;exact h j (by simpa using hj)
theorem SW{p:UInt8→Bool}{s:AE}{j:Nat}(hj:j<s.size)(h:p s[j]=false):s.data.toList.all p=false:=by
 rw[List.all_eq_false];refine⟨s[j],?_,by simp[h]⟩;have:s[j]=s.data.toList[j]'(by simpa using hj):=rfl;rw[this];exact List.getElem_mem _
theorem VQ{p:UInt8→Bool}{s:AE}{m:Nat}(hm:m<s.size)(h:∀j (hj:j<s.size),j<m→p s[j]=true)(hp:p s[m]=true):∀j (hj:j<s.size),j<m+1→p s[j]=true:=by
 intro j hj hlt;by_cases e:j=m
 ·subst e;exact hp
 exact h j hj (by omega)
def Af(f:AR)(at_:AB):Bool:=
 match CE f at_ with
 |none=>false
 |some n=>n.kind==2
def Cb(f:AR)(dir:AB)(name:AE):Int:=
 match CE f dir with
 |none=>2
 |some n=>if n.kind=2 then(if Hc name then 0 else 22)else 20
def Lf(f:AR)(dir:AB):Bool:=
 match CE f dir with
 |none=>false
 |some n=>decide (12≤n.entries.length)
def MJ(f:AR)(dir:AB):Bool:=
 match CE f dir with
 |none=>true
 |some n=>decide (n.entries.length=0)
def AK(f:AR)(dir:AB)(name:AE):AB×Int:=
 match CE f dir with
 |none=>((0,0),2)
 |some n=>if n.kind=2 then
     match n.entries.find? (fun e:BQ=>decide (e.1=name))with
     |none=>((0,0),2)
     |some e=>((dir.1,e.2),0)
   else((0,0),20)
def Hd(n:Nod):Bool:=
 if n.kind<1∨3<n.kind∨n.mode<0∨511<n.mode∨n.uid<0∨4294967295<n.uid∨n.gid<0∨4294967295<n.gid then false
 else if n.kind=3 then Nd n.target else n.target.toList.isEmpty
end Go.Proofs.YtbgnigjfkbmceaaGreatDoor
namespace Go.Proofs.YtbgnigjfkbmceaaGreatDoor
def Gy(a b:AE):Bool:=Op.bytesLess a.toList b.toList
def JN(name:AE)(ino:Int):Bool→List BQ→List BQ
 |done,[]=>if done then[]else[(name,ino)]
 |done,e::r=>
   (if !done&& !Gy e.1 name then[(name,ino)]else[])++((if e.1=name then[]else[e])++JN name ino (done|| !Gy e.1 name) r)
def D4(es:List BQ)(name:AE)(ino:Int):List BQ:=JN name ino (ino==0) es
def DJ(ino:Int)(es:List BQ):Nat:=es.countP fun e:BQ=>e.2==ino
def Bj(ino:Int)(ns:List Nod):Nat:=DJ ino (ns.flatMap fun n=>n.entries)
def KK(f:AR)(at_:AB):Nat:=
 match CE f at_,Fj f at_.1 with
 |some _,some d=>Bj at_.2 d.nodes
 |_,_=>0
theorem SX{ino:Int}{es:List BQ}{k:Nat}{e:BQ}(h:es[k]?=some e):DJ ino (es.take (k+1))=DJ ino (es.take k)+(if e.2==ino then 1 else 0):=by
 unfold DJ;rw[List.take_add_one,h,List.countP_append];simp[List.countP_cons]
theorem bH(ino:Int)(es:List BQ):DJ ino es≤es.length:=List.countP_le_length
theorem bJ{ino:Int}{ns:List Nod}{m:Nat}{n:Nod}(h:ns[m]?=some n):Bj ino (ns.take (m+1))=Bj ino (ns.take m)+DJ ino n.entries:=by
 unfold Bj DJ;rw[List.take_add_one,h,List.flatMap_append,List.countP_append];simp
def DK(ino:Int)(ns:List Nod):List Nod:=ns.filter fun n=>n.ino != ino
def Ql:Nod:=⟨1,2,493,0,0,1,⟨#[]⟩,[]⟩
def Nf:Dvc:=⟨2,[Ql]⟩
def G0(n:Int):AR×Int:=if n<1∨3<n then([],50)else(List.replicate n.toNat Nf,0)
abbrev Ex:=AR×List Lc×Int
def G2(n:Nod)(next dirIno:Int):Nod:=⟨next,n.kind,n.mode,n.uid,n.gid,if n.kind=2 then dirIno else 0,n.target,[]⟩
end Go.Proofs.YtbgnigjfkbmceaaGreatDoor
namespace Go.Proofs.YtbgnigjfkbmceaaGreatDoor
open Go.RowKit
theorem C1{α:Type}(enc:α→List AV){l:List α}{k:Nat}(h:(k:Int)<((l.map enc).length:Int)):k<l.length∧∃x,l[k]?=some x∧(l.map enc)[k]?=some (enc x)∧(l.take (k+1)).map enc=(l.take k).map enc++[enc x]:=by
 have hk:k<l.length:=by simpa using h
 refine⟨hk,l[k],B2 hk,by simp[hk],?_⟩;rw[List.take_succ_eq_append_getElem hk,List.map_append];rfl
theorem CF{α:Type}(enc:α→List AV){l:List α}{k:Nat}(hk:k≤l.length)(h:¬(k:Int)<((l.map enc).length:Int)):k=l.length:=by
 simp at h;omega
theorem vb{a b:Bool}(h:a=b):AV.v (.bool a)=AV.v (.bool b):=by rw[h]
theorem vi{k:IntKind}{a b:Int}(h:a=b):AV.v (.int k a)=AV.v (.int k b):=by rw[h]
def AA(x:AB):List AV:=[.v (.int .i64 x.1), .v (.int .i64 x.2)]
def Dt(e:BQ):List AV:=[.v (.string e.1), .v (.int .i64 e.2)]
def AZ(n:Nod):List AV:=[.v (.int .i64 n.ino), .v (.int .i64 n.kind), .v (.int .i64 n.mode), .v (.int .i64 n.uid), .v (.int .i64 n.gid), .v (.int .i64 n.parent), .v (.string n.target), .sl 2 (n.entries.map Dt) none]
def Cc(d:Dvc):List AV:=[.v (.int .i64 d.next), .sl 8 (d.nodes.map AZ) none]
def Al(f:AR):List AV:=[.sl 2 (f.map Cc) none]
structure FlsB(f:AR):Prop where
 few:f.length≤1000
 nodes:∀d∈f,d.nodes.length≤1000
 ents:∀d∈f,∀n∈d.nodes,n.entries.length≤1000
theorem SY{f:AR}{a:AB}{k:Nat}{d:Dvc}(hk:a.1=(k:Int))(hd:f[k]?=some d):Hb f a=Mu (fun n:Nod=>n.ino==a.2) d.nodes:=by
 unfold Hb;rw[hk,Mv,hd]
def Ac(f:AR)(a:AB):Nod:=(CE f a).getD Nod.zero
def Du(f:AR)(a:AB):Bool:=(CE f a).isSome
theorem MK(f:AR)(a:AB):Af f a=(Du f a&&decide ((Ac f a).kind=2)):=by
 unfold Af Du Ac;cases CE f a<;>simp[S1]
theorem SZ{f:AR}(hf:FlsB f)(a:AB):(Ac f a).entries.length≤1000:=by
 rcases Ld f a with⟨-,h⟩|⟨k,i,d,n, -,h1,h2, -, -,h⟩
 ·simp[Ac,h,Nod.zero]
 simp only[Ac,h,Option.getD_some];exact hf.ents d (Aj h1) n (Aj h2)
section
theorem ML(f:AR)(a:AB)(hf:FlsB f):AFn prog 179 [.agg (Al f), .agg (AA a)] (fun r=>r= .v (.int .i64 (Hb f a))):=by
 refine enter Tryz.func179 rfl rfl rfl rfl rfl 0 rfl ?_;refine Gl (h:=Fe (h:=DZ (h:=?_)));refine AJ false rfl rfl (fun hb1 hc1=>?_) (fun hb1 hc1=>?_)
 ·refine BT (h:=B7 (h:=FS (h:=?_)));refine A6 ?_;exact vi (by unfold Hb;rw[Qj (.inl hc1)])
 refine Aa (h:=GG (h:=E7 (h:=CH (h:=?_))));refine A4 rfl (fun hb2 hc2=>?_) (fun hb2 hc2=>?_)
 ·refine BL (h:=?_);refine A6 ?_;exact vi (by unfold Hb;rw[Qj (.inr (by rw[List.length_map]at hc2;exact hc2))])
 obtain⟨k,hk⟩:=Int.eq_ofNat_of_zero_le (show 0≤a.1 by omega);rw[hk]at hc2;obtain⟨-,d,hd,hrow, -⟩:=C1 Cc (l:=f) (k:=k) (by omega);have hdn:=hf.nodes d (Aj hd);refine AF (Hy (h:=?_));refine A3 rfl (D7 (n:=k) rfl rfl hk hrow ?_);refine Aa (h:=B4 (h:=Ca (h:=?_)));refine BU (fun m s=>∃j:Nat,j≤d.nodes.length∧m=d.nodes.length - j∧(∀i y,i<j→d.nodes[i]?=some y→(y.ino==a.2)=false)∧s=⟨look [(3, .bp 1 0),(5, .sl 8 (d.nodes.map AZ) none),(6, .v (.int .i64 (j:Int)))],⟨[Al f,AA a],[]⟩⟩) (d.nodes.length) ((wk 2 0)) (⟨0,by omega,rfl,fun i y hi=>by omega,rfl⟩) ?_;rintro m s ⟨j,hj,rfl,ha,rfl⟩;refine Dq (h:=Gm (h:=?_));refine A4 rfl (fun hb3 hc3=>?_) (fun hb3 hc3=>?_)
 ·obtain⟨hlt,n,hy,hrow2, -⟩:=C1 AZ hc3;refine AF (q_ (BK (q_ (Dd 8 (h:=AG 0 (h:=AG 1 (h:=De 2 (h:=AD 3 (h:=A9 4 (h:=AD 5 (h:=A9 6 (h:=Jm 7 (h:=z_ (h:=t_ (?_)))))))))))))));refine A4 rfl (fun hb4 hc4=>?_) (fun hb4 hc4=>?_)
  ·refine AX (h:=BA (h:=CT (h:=?_)));refine A6 ?_;exact vi (by rw[SY hk hd];exact(VN hy (by simpa using hc4) ha).symm)
  refine DH (h:=?_);refine⟨_,_,?_,⟨j+1,by omega,rfl,GL hy ha (by simpa using hc4),rfl⟩,(wk 2 0)⟩;omega
 have e:=CF AZ hj hc3;subst e;refine HQ (h:=?_);refine A6 ?_;exact vi (by rw[SY hk hd];exact(bG (fun i y hi hy=>ha i y hi hy)).symm)
theorem FF(f:AR)(a:AB)(hf:FlsB f):AFn prog 123 [.agg (Al f), .agg (AA a)] (fun r=>r= .tup [.agg (AZ (Ac f a)), .v (.bool (Du f a))]):=by
 refine enter Tryz.func123 rfl rfl rfl rfl rfl 0 rfl ?_;refine Ff (h:=B4 (h:=CN (h:=?_)));refine A3 rfl (A8 (ML f a hf) ?_);rintro r rfl;refine Bn (h:=D2 (h:=?_));refine A4 rfl (fun hb1 hc1=>?_) (fun hb1 hc1=>?_)
 ·have e:CE f a=none:=by
   rcases Ld f a with h|⟨k,i,d,n, -, -, -, -,h, -⟩
   ·exact h.2
   exfalso;omega
  refine Bq (h:=?_);refine AU (r:= .tup [.agg (AZ (Ac f a)), .v (.bool (Du f a))]) none (h5:=?_) (h6:=⟨rfl,rfl,rfl⟩);rw[show Ac f a=Nod.zero by simp[Ac,e],show Du f a=false by simp[Du,e]];exact(by repeat (first|exact A7 _|exact LeA.nil _|exact LeL.refl _|refine LeA.agg ?_|refine LeA.tup ?_|exact LeL.nil|refine LeL.cons ?_ ?_|exact LeA.any _))
 obtain⟨k,i,d,n,g1,g2,g3,g4,g5,g6⟩:=(Ld f a).resolve_left (fun h=>by omega);rw[g5];have hr1:(f.map Cc)[k]?=some (Cc d):=by rw[List.getElem?_map,g2];rfl
 have hr2:(d.nodes.map AZ)[i]?=some (AZ n):=by rw[List.getElem?_map,g3];rfl
 have hen:=hf.ents d (Aj g2) n (Aj g3);refine AF (Hy (h:=?_));refine A3 rfl (D7 (n:=k) rfl rfl g1 hr1 ?_);refine Fx (h:=?_);refine A3 rfl (D7 (n:=i) rfl rfl rfl hr2 ?_);refine JH (h:=B0 (h:=?_))
 first|refine A3 rfl (EF rfl rfl rfl (by simp;omega) (by repeat constructor) ?_)|refine A3 rfl (Ht rfl rfl (by simp;omega) (by repeat constructor) ?_)
 refine Ct (h:=Dr (h:=B8 (h:=?_)));refine A6 ?_;rw[show Ac f a=n by simp[Ac,g6],show Du f a=true by simp[Du,g6]];rfl
theorem Ki(f:AR)(a:AB)(hf:FlsB f):AFn prog 185 [.agg (Al f), .agg (AA a)] (fun r=>r= .v (.bool (Af f a))):=by
 refine enter Tryz.func185 rfl rfl rfl rfl rfl 0 rfl ?_;refine Gl (h:=CN (h:=?_));refine A3 rfl (A8 (FF f a hf) ?_);rintro r rfl;refine FC (h:=Bu (h:=m_ (h:=?_)));refine AJ true rfl rfl (fun hb1 hc1=>?_) (fun hb1 hc1=>?_)
 ·refine Cs (h:=Gp (h:=?_));refine A6 ?_;exact vb (by rw[MK];simp[*])
 refine Gq (h:=?_);refine A6 ?_;exact vb (by rw[MK];simp[*])
end
end Go.Proofs.YtbgnigjfkbmceaaGreatDoor
namespace Go.Proofs.YtbgnigjfkbmceaaGreatDoor
structure Tst where
 fld:Int
 op:Int
 num:Int
 text:AE
 other:Int
structure Rul where
 list:Int
 action:Int
 calls:Int
 tests:List Tst
 watch:Int
 path:AE
 perm:Int
 key:AE
structure Itm where
 given:AE
 path:AE
 dir:AB
 name:AE
 file:AB
 role:Int
 kind:Int
 mode:Int
 uid:Int
 gid:Int
 perm:Int
structure Ctx where
 phase:Int
 pid:Int
 ppid:Int
 uid:Int
 euid:Int
 gid:Int
 egid:Int
 auid:Int
 ses:Int
 cwd:AB
 comm:AE
 exe:AE
 audited:Bool
 number:Int
 a0:Int
 a1:Int
 a2:Int
 a3:Int
 ext:Int
 items:List Itm
 typ:Int
def Itm.zero:Itm:=⟨⟨#[]⟩,⟨#[]⟩,(0,0),⟨#[]⟩,(0,0),0,0,0,0,0,0⟩
def Co(f:Int):Bool:=decide (1≤f∧f≤8∨f=13∨f=14)
def Ei(list f:Int):Bool:=
 if list=1∨list=4 then Co f
 else if list=2 then decide (1≤f∧f≤14)
 else if list=3 then decide (1≤f∧f≤21)
 else if list=5 then decide (1≤f∧f≤8∨f=13∨f=14∨f=22)
 else false
def EY(f:Int):Bool:=decide (f=13∨f=14)
def Ej(f:Int):Bool:=decide (f=3∨f=4∨f=5∨f=6∨f=7∨f=19∨f=20)
def Kj(f:Int):Bool:=decide (17≤f∧f≤21)
def BX(t:Tst)(list:Int):Int:=
 if Ei list t.fld=false∨t.other≠0∧(Ei list t.other=false∨Ej t.fld=false∨Ej t.other=false)then 120
 else if t.op<1∨8<t.op∨2<t.op∧(EY t.fld=true∨t.other≠0)then 121
 else if t.other≠0∧(t.num≠0∨t.text.size≠0)then 122
 else if EY t.fld=true∧(t.num≠0∨t.text.size=0∨640<t.text.size)then 122
 else if EY t.fld=false∧t.text.size≠0 then 122
 else 0
def Dh(f:Int)(c:Ctx)(y:Itm):Int:=
 if f=1 then c.pid else if f=2 then c.ppid else if f=3 then c.uid else if f=4 then c.euid else if f=5 then c.gid else if f=6 then c.egid
 else if f=7 then c.auid else if f=8 then c.ses else if f=9 then c.a0 else if f=10 then c.a1 else if f=11 then c.a2 else if f=12 then c.a3
 else if f=15 then c.ext else if f=16 then(if 0≤c.ext then 1 else 0)else if f=17 then y.file.2 else if f=18 then y.file.1
 else if f=19 then y.uid else if f=20 then y.gid else if f=21 then y.kind else c.typ
def Br(f:Int)(c:Ctx):Bool:=
 if 1≤f∧f≤12 then true else if f=22 then decide (c.typ≠0)else if 15≤f∧f≤21 then decide (c.phase=2)else false
def Jq(f:Int)(c:Ctx):Bool:=
 if 15≤f∧f≤21 then decide (c.phase=2)else decide (f≠22∨c.typ≠0)
end Go.Proofs.YtbgnigjfkbmceaaGreatDoor
namespace Go.Proofs.YtbgnigjfkbmceaaGreatDoor
open Go.RowKit
def Cu(t:Tst):List AV:=[.v (.int .i64 t.fld), .v (.int .i64 t.op), .v (.int .i64 t.num), .v (.string t.text), .v (.int .i64 t.other)]
def Ag(r:Rul):List AV:=[.v (.int .i64 r.list), .v (.int .i64 r.action), .v (.int .u64 r.calls), .sl 5 (r.tests.map Cu) none, .v (.int .i64 r.watch), .v (.string r.path), .v (.int .i64 r.perm), .v (.string r.key)]
def FT(y:Itm):List AV:=[.v (.string y.given), .v (.string y.path), .v (.int .i64 y.dir.1), .v (.int .i64 y.dir.2), .v (.string y.name), .v (.int .i64 y.file.1), .v (.int .i64 y.file.2), .v (.int .i64 y.role), .v (.int .i64 y.kind), .v (.int .i64 y.mode), .v (.int .i64 y.uid), .v (.int .i64 y.gid), .v (.int .i64 y.perm)]
structure Cxs where
 os:List (List AV)
 ps:List (List AV)
 rs:List (List AV)
def D5(c:Ctx)(k:Cxs):List AV:=[.v (.int .i64 c.phase), .v (.int .i64 c.pid), .v (.int .i64 c.ppid), .v (.int .i64 c.uid), .v (.int .i64 c.euid), .v (.int .i64 c.gid), .v (.int .i64 c.egid), .v (.int .i64 c.auid), .v (.int .i64 c.ses), .v (.int .i64 c.cwd.1), .v (.int .i64 c.cwd.2), .v (.string c.comm), .v (.string c.exe), .sl 4 k.os none, .v (.bool c.audited),
 .v (.int .i64 c.number), .v (.int .i64 c.a0), .v (.int .i64 c.a1), .v (.int .i64 c.a2), .v (.int .i64 c.a3), .sl 1 k.ps none, .sl 1 k.rs none, .v (.int .i64 c.ext), .sl 13 (c.items.map FT) none, .v (.int .i64 c.typ)]
section
theorem J4(f:Int):AFn prog 221 [.v (.int .i64 f)] (fun r=>r= .v (.bool (EY f))):=by
 refine enter Tryz.func221 rfl rfl rfl rfl rfl 0 rfl ?_;refine EX (h:=Dy (h:=?_));refine AJ false rfl rfl (fun hb1 hc1=>?_) (fun hb1 hc1=>?_)
 ·refine B7 (h:=Gp (h:=?_));refine A6 ?_;exact vb (by unfold EY;rw[Bool.eq_iff_iff];simp;try omega)
 refine D9 (h:=Bx (h:=B8 (h:=?_)));refine A6 ?_;exact vb (by unfold EY;rw[Bool.eq_iff_iff];simp;try omega)
theorem MM(f:Int):AFn prog 217 [.v (.int .i64 f)] (fun r=>r= .v (.bool (EY f))):=by
 refine enter Tryz.func217 rfl rfl rfl rfl rfl 0 rfl ?_;refine EX (h:=Dy (h:=?_));refine AJ false rfl rfl (fun hb1 hc1=>?_) (fun hb1 hc1=>?_)
 ·refine B7 (h:=Gp (h:=?_));refine A6 ?_;exact vb (by unfold EY;rw[Bool.eq_iff_iff];simp;try omega)
 refine D9 (h:=Bx (h:=B8 (h:=?_)));refine A6 ?_;exact vb (by unfold EY;rw[Bool.eq_iff_iff];simp;try omega)
theorem VR(f:Int):AFn prog 160 [.v (.int .i64 f)] (fun r=>r= .v (.bool (Kj f))):=by
 refine enter Tryz.func160 rfl rfl rfl rfl rfl 0 rfl ?_;refine EX (h:=E7 (h:=m_ (h:=?_)));refine AJ true rfl rfl (fun hb1 hc1=>?_) (fun hb1 hc1=>?_)
 ·refine m_ (h:=Gg (h:=Gp (h:=?_)));refine A6 ?_;exact vb (by unfold Kj;rw[Bool.eq_iff_iff];simp;try omega)
 refine HU (h:=B8 (h:=?_));refine A6 ?_;exact vb (by unfold Kj;rw[Bool.eq_iff_iff];simp;try omega)
theorem VS(f:Int):AFn prog 220 [.v (.int .i64 f)] (fun r=>r= .v (.bool (Ej f))):=by
 refine enter Tryz.func220 rfl rfl rfl rfl rfl 0 rfl ?_;refine w_ (Bn (h:=e_ (BK (q_ (Ar (h:=?_))))));refine A4 rfl (fun hb1 hc1=>?_) (fun hb1 hc1=>?_)
 ·refine AF (D3 (h:=?_));refine A6 ?_;exact vb (by unfold Ej;rw[Bool.eq_iff_iff];simp;try omega)
 refine Ar (h:=?_);refine A4 rfl (fun hb2 hc2=>?_) (fun hb2 hc2=>?_)
 ·refine AF (D3 (h:=?_));refine A6 ?_;exact vb (by unfold Ej;rw[Bool.eq_iff_iff];simp;try omega)
 refine Ar (h:=?_);refine A4 rfl (fun hb3 hc3=>?_) (fun hb3 hc3=>?_)
 ·refine AF (D3 (h:=?_));refine A6 ?_;exact vb (by unfold Ej;rw[Bool.eq_iff_iff];simp;try omega)
 refine Ar (h:=?_);refine A4 rfl (fun hb4 hc4=>?_) (fun hb4 hc4=>?_)
 ·refine AF (D3 (h:=?_));refine A6 ?_;exact vb (by unfold Ej;rw[Bool.eq_iff_iff];simp;try omega)
 refine Ar (h:=?_);refine A4 rfl (fun hb5 hc5=>?_) (fun hb5 hc5=>?_)
 ·refine AF (D3 (h:=?_));refine A6 ?_;exact vb (by unfold Ej;rw[Bool.eq_iff_iff];simp;try omega)
 refine Ar (h:=?_);refine A4 rfl (fun hb6 hc6=>?_) (fun hb6 hc6=>?_)
 ·refine AF (D3 (h:=?_));refine A6 ?_;exact vb (by unfold Ej;rw[Bool.eq_iff_iff];simp;try omega)
 refine Aw (EW (h:=?_));refine A4 rfl (fun hb7 hc7=>?_) (fun hb7 hc7=>?_)
 ·refine Bh (h:=?_);refine A6 ?_;exact vb (by unfold Ej;rw[Bool.eq_iff_iff];simp;try omega)
 refine FE (h:=?_);refine A6 ?_;exact vb (by unfold Ej;rw[Bool.eq_iff_iff];simp;try omega)
theorem VT(f:Int):AFn prog 216 [.v (.int .i64 f)] (fun r=>r= .v (.bool (Ej f))):=by
 refine enter Tryz.func216 rfl rfl rfl rfl rfl 0 rfl ?_;refine w_ (Bn (h:=e_ (BK (q_ (Ar (h:=?_))))));refine A4 rfl (fun hb1 hc1=>?_) (fun hb1 hc1=>?_)
 ·refine AF (D3 (h:=?_));refine A6 ?_;exact vb (by unfold Ej;rw[Bool.eq_iff_iff];simp;try omega)
 refine Ar (h:=?_);refine A4 rfl (fun hb2 hc2=>?_) (fun hb2 hc2=>?_)
 ·refine AF (D3 (h:=?_));refine A6 ?_;exact vb (by unfold Ej;rw[Bool.eq_iff_iff];simp;try omega)
 refine Ar (h:=?_);refine A4 rfl (fun hb3 hc3=>?_) (fun hb3 hc3=>?_)
 ·refine AF (D3 (h:=?_));refine A6 ?_;exact vb (by unfold Ej;rw[Bool.eq_iff_iff];simp;try omega)
 refine Ar (h:=?_);refine A4 rfl (fun hb4 hc4=>?_) (fun hb4 hc4=>?_)
 ·refine AF (D3 (h:=?_));refine A6 ?_;exact vb (by unfold Ej;rw[Bool.eq_iff_iff];simp;try omega)
 refine Ar (h:=?_);refine A4 rfl (fun hb5 hc5=>?_) (fun hb5 hc5=>?_)
 ·refine AF (D3 (h:=?_));refine A6 ?_;exact vb (by unfold Ej;rw[Bool.eq_iff_iff];simp;try omega)
 refine Ar (h:=?_);refine A4 rfl (fun hb6 hc6=>?_) (fun hb6 hc6=>?_)
 ·refine AF (D3 (h:=?_));refine A6 ?_;exact vb (by unfold Ej;rw[Bool.eq_iff_iff];simp;try omega)
 refine Aw (EW (h:=?_));refine A4 rfl (fun hb7 hc7=>?_) (fun hb7 hc7=>?_)
 ·refine Bh (h:=?_);refine A6 ?_;exact vb (by unfold Ej;rw[Bool.eq_iff_iff];simp;try omega)
 refine FE (h:=?_);refine A6 ?_;exact vb (by unfold Ej;rw[Bool.eq_iff_iff];simp;try omega)
theorem VU(list f:Int):AFn prog 219 [.v (.int .i64 list), .v (.int .i64 f)] (fun r=>r= .v (.bool (Ei list f))):=by
 refine enter Tryz.func219 rfl rfl rfl rfl rfl 0 rfl ?_;refine DG (h:=?_);refine Kd (⟨look [(0, .v (.int .i64 list)),(1, .v (.int .i64 f)),(5, .v (.bool (Co f)))],⟨[],[]⟩⟩) ?_ ?_
 ·skip
  refine Bt (h:=E7 (h:=m_ (h:=?_)));refine AJ true rfl rfl (fun hb1 hc1=>?_) (fun hb1 hc1=>?_)
  ·refine m_ (h:=Gg (h:=Bz (h:=?_)));refine AJ false rfl rfl (fun hb2 hc2=>?_) (fun hb2 hc2=>?_)
   ·refine B7 (h:=Bz (h:=B7 (h:=CZ (h:=Ch (h:=?_)))))
    first|(exfalso;first|contradiction|omega)|exact Ao 0 0 rfl rfl rfl rfl (by repeat (first|exact Sub.nil|refine Ap rfl rfl ?_|refine At ?_|refine Au rfl ?_|refine Av rfl ?_|(apply Sub.of;(focus exact rfl);(focus exact LeA.of_eq (vb (by unfold Co;rw[Bool.eq_iff_iff];simp;try omega)));(focus exact rfl))))
   refine D9 (h:=Be (h:=?_));refine AJ false rfl rfl (fun hb3 hc3=>?_) (fun hb3 hc3=>?_)
   ·refine B7 (h:=CZ (h:=Ch (h:=?_)))
    first|(exfalso;first|contradiction|omega)|exact Ao 0 0 rfl rfl rfl rfl (by repeat (first|exact Sub.nil|refine Ap rfl rfl ?_|refine At ?_|refine Au rfl ?_|refine Av rfl ?_|(apply Sub.of;(focus exact rfl);(focus exact LeA.of_eq (vb (by unfold Co;rw[Bool.eq_iff_iff];simp;try omega)));(focus exact rfl))))
   refine D9 (h:=Bx (h:=Ch (h:=?_)))
   first|(exfalso;first|contradiction|omega)|exact Ao 0 0 rfl rfl rfl rfl (by repeat (first|exact Sub.nil|refine Ap rfl rfl ?_|refine At ?_|refine Au rfl ?_|refine Av rfl ?_|(apply Sub.of;(focus exact rfl);(focus exact LeA.of_eq (vb (by unfold Co;rw[Bool.eq_iff_iff];simp;try omega)));(focus exact rfl))))
  refine B7 (h:=Be (h:=D9 (h:=Be (h:=?_))));refine AJ false rfl rfl (fun hb4 hc4=>?_) (fun hb4 hc4=>?_)
  ·refine B7 (h:=CZ (h:=Ch (h:=?_)))
   (exfalso;first|contradiction|omega)
  refine D9 (h:=Bx (h:=Ch (h:=?_)))
  first|(exfalso;first|contradiction|omega)|exact Ao 0 0 rfl rfl rfl rfl (by repeat (first|exact Sub.nil|refine Ap rfl rfl ?_|refine At ?_|refine Au rfl ?_|refine Av rfl ?_|(apply Sub.of;(focus exact rfl);(focus exact LeA.of_eq (vb (by unfold Co;rw[Bool.eq_iff_iff];simp;try omega)));(focus exact rfl))))
 skip
 refine Bk (h:=e_ (BK (q_ (Ar (h:=?_)))));refine A4 rfl (fun hb5 hc5=>?_) (fun hb5 hc5=>?_)
 ·refine AF (CX (h:=AX (h:=BA (h:=?_))));refine A6 ?_
  first|(exfalso;first|contradiction|omega)|(exact vb (by unfold Ei;unfold Co at *;simp only[*];(try rw[Bool.eq_iff_iff]);simp at *;try omega))
 refine Aw (EW (h:=?_));refine A4 rfl (fun hb6 hc6=>?_) (fun hb6 hc6=>?_)
 ·refine AX (h:=BA (h:=?_));refine A6 ?_
  first|(exfalso;first|contradiction|omega)|(exact vb (by unfold Ei;unfold Co at *;simp only[*];(try rw[Bool.eq_iff_iff]);simp at *;try omega))
 refine Ar (h:=?_);refine A4 rfl (fun hb7 hc7=>?_) (fun hb7 hc7=>?_)
 ·refine AX (h:=E7 (h:=m_ (h:=?_)));refine AJ true rfl rfl (fun hb8 hc8=>?_) (fun hb8 hc8=>?_)
  ·refine m_ (h:=Gg (h:=CZ (h:=BA (h:=?_))));refine A6 ?_
   first|(exfalso;first|contradiction|omega)|(exact vb (by unfold Ei;unfold Co at *;simp only[*];(try rw[Bool.eq_iff_iff]);simp at *;try omega))
  refine HU (h:=BA (h:=?_));refine A6 ?_
  first|(exfalso;first|contradiction|omega)|(exact vb (by unfold Ei;unfold Co at *;simp only[*];(try rw[Bool.eq_iff_iff]);simp at *;try omega))
 refine Ar (h:=?_);refine A4 rfl (fun hb9 hc9=>?_) (fun hb9 hc9=>?_)
 ·refine AX (h:=E7 (h:=m_ (h:=?_)));refine AJ true rfl rfl (fun hb10 hc10=>?_) (fun hb10 hc10=>?_)
  ·refine m_ (h:=Gg (h:=CZ (h:=BA (h:=?_))));refine A6 ?_
   first|(exfalso;first|contradiction|omega)|(exact vb (by unfold Ei;unfold Co at *;simp only[*];(try rw[Bool.eq_iff_iff]);simp at *;try omega))
  refine HU (h:=BA (h:=?_));refine A6 ?_
  first|(exfalso;first|contradiction|omega)|(exact vb (by unfold Ei;unfold Co at *;simp only[*];(try rw[Bool.eq_iff_iff]);simp at *;try omega))
 refine Ar (h:=?_);refine A4 rfl (fun hb11 hc11=>?_) (fun hb11 hc11=>?_)
 ·refine E9 (h:=?_);refine AJ false rfl rfl (fun hb12 hc12=>?_) (fun hb12 hc12=>?_)
  ·refine B7 (h:=CZ (h:=BA (h:=?_)));refine A6 ?_
   first|(exfalso;first|contradiction|omega)|(exact vb (by unfold Ei;unfold Co at *;simp only[*];(try rw[Bool.eq_iff_iff]);simp at *;try omega))
  refine D9 (h:=Bx (h:=BA (h:=?_)));refine A6 ?_
  first|(exfalso;first|contradiction|omega)|(exact vb (by unfold Ei;unfold Co at *;simp only[*];(try rw[Bool.eq_iff_iff]);simp at *;try omega))
 refine FE (h:=?_);refine A6 ?_
 first|(exfalso;first|contradiction|omega)|(exact vb (by unfold Ei;unfold Co at *;simp only[*];(try rw[Bool.eq_iff_iff]);simp at *;try omega))
theorem VV(list f:Int):AFn prog 215 [.v (.int .i64 list), .v (.int .i64 f)] (fun r=>r= .v (.bool (Ei list f))):=by
 refine enter Tryz.func215 rfl rfl rfl rfl rfl 0 rfl ?_;refine w_ (Bn (h:=DZ (h:=?_)));refine AJ false rfl rfl (fun hb1 hc1=>?_) (fun hb1 hc1=>?_)
 ·refine B7 (h:=FS (h:=?_));refine A6 ?_
  first|(exfalso;first|contradiction|omega)|(exact vb (by unfold Ei Co;(repeat' split)<;>(try rw[Bool.eq_iff_iff])<;>(try simp)<;>(first|omega|(unfold Co at *;simp only[decide_eq_true_eq,decide_eq_false_iff_not]at *;omega)|skip)))
 refine m_ (h:=E6 (h:=CH (h:=?_)));refine A4 rfl (fun hb2 hc2=>?_) (fun hb2 hc2=>?_)
 ·refine BL (h:=?_);refine A6 ?_
  first|(exfalso;first|contradiction|omega)|(exact vb (by unfold Ei Co;(repeat' split)<;>(try rw[Bool.eq_iff_iff])<;>(try simp)<;>(first|omega|(unfold Co at *;simp only[decide_eq_true_eq,decide_eq_false_iff_not]at *;omega)|skip)))
 refine AF (?_);refine Kd (⟨look [(0, .v (.int .i64 list)),(1, .v (.int .i64 f)),(5, .v (.bool (Co f)))],⟨[],[]⟩⟩) ?_ ?_
 ·skip
  refine Bt (h:=Gg (h:=m_ (h:=?_)));refine AJ false rfl rfl (fun hb3 hc3=>?_) (fun hb3 hc3=>?_)
  ·refine B7 (h:=Bz (h:=B7 (h:=CZ (h:=Ch (h:=?_)))))
   first|(exfalso;first|contradiction|omega)|exact Ao 0 0 rfl rfl rfl rfl (by repeat (first|exact Sub.nil|refine Ap rfl rfl ?_|refine At ?_|refine Au rfl ?_|refine Av rfl ?_|(apply Sub.of;(focus exact rfl);(focus exact LeA.of_eq (vb (by unfold Co;rw[Bool.eq_iff_iff];simp;try omega)));(focus exact rfl))))
  refine D9 (h:=Be (h:=?_));refine AJ false rfl rfl (fun hb4 hc4=>?_) (fun hb4 hc4=>?_)
  ·refine B7 (h:=CZ (h:=Ch (h:=?_)))
   first|(exfalso;first|contradiction|omega)|exact Ao 0 0 rfl rfl rfl rfl (by repeat (first|exact Sub.nil|refine Ap rfl rfl ?_|refine At ?_|refine Au rfl ?_|refine Av rfl ?_|(apply Sub.of;(focus exact rfl);(focus exact LeA.of_eq (vb (by unfold Co;rw[Bool.eq_iff_iff];simp;try omega)));(focus exact rfl))))
  refine D9 (h:=Bx (h:=Ch (h:=?_)))
  first|(exfalso;first|contradiction|omega)|exact Ao 0 0 rfl rfl rfl rfl (by repeat (first|exact Sub.nil|refine Ap rfl rfl ?_|refine At ?_|refine Au rfl ?_|refine Av rfl ?_|(apply Sub.of;(focus exact rfl);(focus exact LeA.of_eq (vb (by unfold Co;rw[Bool.eq_iff_iff];simp;try omega)));(focus exact rfl))))
 skip
 refine Bk (h:=e_ (BK (q_ (Ar (h:=?_)))));refine A4 rfl (fun hb5 hc5=>?_) (fun hb5 hc5=>?_)
 ·refine AF (CX (h:=AX (h:=BA (h:=?_))));refine A6 ?_
  first|(exfalso;first|contradiction|omega)|(exact vb (by unfold Ei Co;(repeat' split)<;>(try rw[Bool.eq_iff_iff])<;>(try simp)<;>(first|omega|(unfold Co at *;simp only[decide_eq_true_eq,decide_eq_false_iff_not]at *;omega)|skip)))
 refine Aw (EW (h:=?_));refine A4 rfl (fun hb6 hc6=>?_) (fun hb6 hc6=>?_)
 ·refine AX (h:=BA (h:=?_));refine A6 ?_
  first|(exfalso;first|contradiction|omega)|(exact vb (by unfold Ei Co;(repeat' split)<;>(try rw[Bool.eq_iff_iff])<;>(try simp)<;>(first|omega|(unfold Co at *;simp only[decide_eq_true_eq,decide_eq_false_iff_not]at *;omega)|skip)))
 refine Ar (h:=?_);refine A4 rfl (fun hb7 hc7=>?_) (fun hb7 hc7=>?_)
 ·refine AX (h:=Gg (h:=BA (h:=?_)));refine A6 ?_
  first|(exfalso;first|contradiction|omega)|(exact vb (by unfold Ei Co;(repeat' split)<;>(try rw[Bool.eq_iff_iff])<;>(try simp)<;>(first|omega|(unfold Co at *;simp only[decide_eq_true_eq,decide_eq_false_iff_not]at *;omega)|skip)))
 refine Ar (h:=?_);refine A4 rfl (fun hb8 hc8=>?_) (fun hb8 hc8=>?_)
 ·refine AX (h:=Jn (h:=BA (h:=?_)));refine A6 ?_
  first|(exfalso;first|contradiction|omega)|(exact vb (by unfold Ei Co;(repeat' split)<;>(try rw[Bool.eq_iff_iff])<;>(try simp)<;>(first|omega|(unfold Co at *;simp only[decide_eq_true_eq,decide_eq_false_iff_not]at *;omega)|skip)))
 refine Ar (h:=?_);refine A4 rfl (fun hb9 hc9=>?_) (fun hb9 hc9=>?_)
 ·refine E9 (h:=?_);refine AJ false rfl rfl (fun hb10 hc10=>?_) (fun hb10 hc10=>?_)
  ·refine B7 (h:=CZ (h:=BA (h:=?_)));refine A6 ?_
   first|(exfalso;first|contradiction|omega)|(exact vb (by unfold Ei Co;(repeat' split)<;>(try rw[Bool.eq_iff_iff])<;>(try simp)<;>(first|omega|(unfold Co at *;simp only[decide_eq_true_eq,decide_eq_false_iff_not]at *;omega)|skip)))
  refine D9 (h:=Bx (h:=BA (h:=?_)));refine A6 ?_
  first|(exfalso;first|contradiction|omega)|(exact vb (by unfold Ei Co;(repeat' split)<;>(try rw[Bool.eq_iff_iff])<;>(try simp)<;>(first|omega|(unfold Co at *;simp only[decide_eq_true_eq,decide_eq_false_iff_not]at *;omega)|skip)))
 refine FE (h:=?_);refine A6 ?_
 first|(exfalso;first|contradiction|omega)|(exact vb (by unfold Ei Co;(repeat' split)<;>(try rw[Bool.eq_iff_iff])<;>(try simp)<;>(first|omega|(unfold Co at *;simp only[decide_eq_true_eq,decide_eq_false_iff_not]at *;omega)|skip)))
end
end Go.Proofs.YtbgnigjfkbmceaaGreatDoor
