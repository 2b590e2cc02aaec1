/-
  Part 4 of the proof of FilterFollowsP: what the statement's proof uses of the texts in wip/tpl.
-/
import Derived.WalkKit
import Derived.Test.YtbgnigjfkbmceaaGreatDoorQi3
open Go.Proofs.Tryz (prog)
set_option maxRecDepth 10000
set_option maxHeartbeats 4000000
set_option linter.unusedVariables false
set_option linter.unusedSimpArgs false
namespace Go.Proofs.YtbgnigjfkbmceaaGreatDoor
open Go.RowKit
section
variable {P:Program}{N:Dim}{Q:Exit→AS→Prop}{s:AS}
def AC(P:Program)(N:Dim)(y:Code)(Q:Exit→AS→Prop)(s:AS):Prop:=C0 P N y Q s
theorem q_{x y:Code}(h:C0 P N x (K0 (AC P N y Q) Q) s):C0 P N (.seq x y) Q s:=by
 intro E a w hr;refine wp_seq (wp_mono (h E a w hr) ?_);rintro e a' w' ⟨s',hq,hr'⟩
 cases e with
 |normal=>exact hq E a' w' hr'
 |exit id=>exact⟨s',hq,hr'⟩
 |goto l=>exact⟨s',hq,hr'⟩
 |ret=>exact⟨s',hq,hr'⟩
 |panic c=>exact⟨s',hq,hr'⟩
 |outgrown=>exact⟨s',hq,hr'⟩
theorem w_{id:Nat}{l:List Oper}{y:Code}(h:AL P N l.toArray (K0 (AC P N y Q) Q) l s):C0 P N (.seq (.region id l.toArray false) y) Q s:=q_ (Av h)
theorem t_{y:Code}(h:C0 P N y Q s):K0 (AC P N y Q) Q .normal s:=h
theorem e_{ops:Array Oper}{y:Code}(h:C0 P N y Q s):AL P N ops (K0 (AC P N y Q) Q) [] s:=C1 h
theorem AG{y:Code}(h:C0 P N y Q s):C0 P N .skip (K0 (AC P N y Q) Q) s:=BF h
theorem Fr{c:Operand}{x y:Code}{t:Bool}(hc:CT s.sl c=some (.v (.bool t)):=by rfl)(ht:t=true:=by first|rfl|assumption|simp[*])(h:C0 P N x Q s):C0 P N (.cond c x y) Q s:=cP hc ht h
theorem JH{c:Operand}{x y:Code}{t:Bool}(hc:CT s.sl c=some (.v (.bool t)):=by rfl)(ht:t=false:=by first|rfl|assumption|simp[*])(h:C0 P N y Q s):C0 P N (.cond c x y) Q s:=cQ hc ht h
end
section
variable {P:Program}{N:Dim}{Q:Exit→AS→Prop}{ops:Array Oper}{rest:List Oper}{l:List (Nat×AV)}{hh:AH}{op:Op}{ty:TypeId}{pos:String}{af:Array Edge}
theorem Dg{d j:Nat}{want t:Bool}(hd:Nat.blt d N.n=true:=by rfl)(hy:yv ops (look l) j=some (some t):=by rfl)(ht:(t==want)=false:=by first|rfl|exact VZ ‹_›|exact Va ‹_›|simp[*])(h:AL P N ops Q rest ⟨look ((d, .v undef)::l),hh⟩):AL P N ops Q (⟨some d,op,ty,pos,af,some (j,want)⟩::rest) ⟨look l,hh⟩:=cR hd hy ht h
theorem Ma{d j:Nat}{want:Bool}(hd:Nat.blt d N.n=true:=by rfl)(hy:yv ops (look l) j=some none:=by rfl)(h:AL P N ops Q rest ⟨look ((d, .v undef)::l),hh⟩):AL P N ops Q (⟨some d,op,ty,pos,af,some (j,want)⟩::rest) ⟨look l,hh⟩:=cS hd hy h
end
def KB:List (Nat×List AV)→AH→Prop
 |[],_=>True
 |(i,r)::l,h=>h.bx[i]?=some r∧KB l h
def Sq:List (Nat×List AV)→Nat→Option (List AV)
 |[],_=>none
 |(i,r)::l,j=>match Nat.beq i j with
   |true=>some r
   |false=>Sq l j
theorem kb:∀{l:List (Nat×List AV)} {h:AH} {i:Nat} {row:List AV},KB l h→Sq l i=some row→h.bx[i]?=some row
 |[],_,_,_,_,e=>by cases e
 |(j,r)::l,h,i,row,k,e=>by
   unfold Sq at e;split at e
   ·rename_i hb;have:=Nat.eq_of_beq_eq_true hb;subst this;injection e with e;subst e;exact k.1
   exact kb k.2 e
theorem O4(h:AH):KB [] h:=trivial
theorem O5{l:List (Nat×List AV)}{h:AH}{i:Nat}{r:List AV}(h1:h.bx[i]?=some r)(h2:KB l h):KB ((i,r)::l) h:=⟨h1,h2⟩
def Do(_i:Nat)(B A:Prop):Prop:=B→A
section
variable {P:Program}{N:Dim}{l:List Oper}{Q:Exit→AS→Prop}{S:AH→Prop}{tl fuel:Nat}{listed:Array Bool}{m:List (Nat×AV)}{hh:AH}{op:Op}{ty:TypeId}{pos:String}{af:Array Edge}{gd:Option (Nat×Bool)}
theorem D3{i d:Nat}{x:AV}(hi:l[i]?=some ⟨some d,op,ty,pos,af,gd⟩)(hst:AStep P ⟨some d,op,ty,pos,af,gd⟩ (CT (look m)) hh (fun x' h'=>x'=x∧h'=hh))(hd:Nat.blt d N.n=true:=by rfl)(htl:(LN l.toArray tl listed&& !Nat.ble tl i&&Region.free .any l.toArray listed i&&(Region.ready .any l.toArray listed).contains i)=true:=by kernel_rfl)
    (hw:Ca l.toArray (look m) ⟨some d,op,ty,pos,af,gd⟩=some true:=by first|rfl|exact BO rfl rfl (EQ ‹_›)|exact BO rfl rfl (ER ‹_›)|exact BO rfl rfl (by simp[*])):
    Do i (AAny P N l.toArray Q (fun h'=>h'=hh) tl fuel (listed.setIfInBounds i true) ⟨look ((d,x)::m),hh⟩) (AAny P N l.toArray Q (fun h'=>h'=hh) tl (fuel+1) listed ⟨look m,hh⟩):=fun H=>V9 hi hd htl hw hst H
theorem D4{K:List (Nat×List AV)}{i d:Nat}{x:AV}(hi:l[i]?=some ⟨some d,op,ty,pos,af,gd⟩)(hst:∀h,KB K h→AStep P ⟨some d,op,ty,pos,af,gd⟩ (CT (look m)) h (fun x' h'=>x'=x∧h'=h))(hd:Nat.blt d N.n=true:=by rfl)(htl:(LN l.toArray tl listed&& !Nat.ble tl i&&Region.free .any l.toArray listed i&&(Region.ready .any l.toArray listed).contains i)=true:=by kernel_rfl)
    (hw:Ca l.toArray (look m) ⟨some d,op,ty,pos,af,gd⟩=some true:=by first|rfl|exact BO rfl rfl (EQ ‹_›)|exact BO rfl rfl (ER ‹_›)|exact BO rfl rfl (by simp[*])) (hS:KB K hh:=by repeat (first|exact O4 _|refine O5 rfl ?_)):
    Do i (AAny P N l.toArray Q (KB K) tl fuel (listed.setIfInBounds i true) ⟨look ((d,x)::m),hh⟩) (AAny P N l.toArray Q (KB K) tl (fuel+1) listed ⟨look m,hh⟩):=fun H=>H5 hi hd htl hw hst hS H
theorem CC{K:List (Nat×List AV)}(i:Nat){d:Nat}{x:AV}(hi:l[i]?=some ⟨some d,op,ty,pos,af,gd⟩)(hst:∀h,KB K h→AStep P ⟨some d,op,ty,pos,af,gd⟩ (CT (look m)) h (fun x' h'=>x'=x∧h'=h))(H:AAny P N l.toArray Q (KB K) tl fuel (listed.setIfInBounds i true) ⟨look ((d,x)::m),hh⟩)(hd:Nat.blt d N.n=true:=by rfl)(htl:(LN l.toArray tl listed&& !Nat.ble tl i&&Region.free .any l.toArray listed i&&(Region.ready .any l.toArray listed).contains i)=true:=by kernel_rfl)
    (hw:Ca l.toArray (look m) ⟨some d,op,ty,pos,af,gd⟩=some true:=by first|rfl|exact BO rfl rfl (EQ ‹_›)|exact BO rfl rfl (ER ‹_›)|exact BO rfl rfl (by simp[*])) (hS:KB K hh:=by repeat (first|exact O4 _|refine O5 rfl ?_)):AAny P N l.toArray Q (KB K) tl (fuel+1) listed ⟨look m,hh⟩:=H5 hi hd htl hw hst hS H
theorem B5(i:Nat){d:Nat}(hi:l[i]?=some ⟨some d,op,ty,pos,af,gd⟩:=by rfl)(hd:Nat.blt d N.n=true:=by rfl)(htl:(LN l.toArray tl listed&& !Nat.ble tl i&&Region.free .any l.toArray listed i&&(Region.ready .any l.toArray listed).contains i)=true:=by kernel_rfl)
    (hw:Ca l.toArray (look m) ⟨some d,op,ty,pos,af,gd⟩=some false:=by first|rfl|exact SL rfl rfl (VZ ‹_›)|exact SL rfl rfl (Va ‹_›)|exact bW rfl rfl|exact SL rfl rfl (by simp[*]))
    (hS:S hh:=by first|rfl|(repeat (first|exact O4 _|refine O5 rfl ?_))) (h:AAny P N l.toArray Q S tl fuel (listed.setIfInBounds i true) ⟨look ((d, .v undef)::m),hh⟩):AAny P N l.toArray Q S tl (fuel+1) listed ⟨look m,hh⟩:=bR hi hd htl hw hS h
theorem c_(i:Nat){d:Nat}(hi:l[i]?=some ⟨some d,op,ty,pos,af,gd⟩)(H:AStep P ⟨some d,op,ty,pos,af,gd⟩ (CT (look m)) hh (fun x h'=>(Nat.ble tl i=true∨S h')∧AAny P N l.toArray Q S tl fuel (listed.setIfInBounds i true) ⟨look ((d,x)::m),h'⟩))(hd:Nat.blt d N.n=true:=by rfl)(hr:Region.ready .any l.toArray listed=[i]:=by kernel_rfl)
    (hw:Ca l.toArray (look m) ⟨some d,op,ty,pos,af,gd⟩=some true:=by first|rfl|exact BO rfl rfl (EQ ‹_›)|exact BO rfl rfl (ER ‹_›)|exact BO rfl rfl (by simp[*])):AAny P N l.toArray Q S tl (fuel+1) listed ⟨look m,hh⟩:=bS hi hd hr hw H
theorem Hn(i:Nat)(hi:l[i]?=some ⟨none,op,ty,pos,af,gd⟩)(H:AStep P ⟨none,op,ty,pos,af,gd⟩ (CT (look m)) hh (fun _ h'=>(Nat.ble tl i=true∨S h')∧AAny P N l.toArray Q S tl fuel (listed.setIfInBounds i true) ⟨look m,h'⟩))(hr:Region.ready .any l.toArray listed=[i]:=by kernel_rfl)
    (hw:Ca l.toArray (look m) ⟨none,op,ty,pos,af,gd⟩=some true:=by first|rfl|exact BO rfl rfl (EQ ‹_›)|exact BO rfl rfl (ER ‹_›)|exact BO rfl rfl (by simp[*])):AAny P N l.toArray Q S tl (fuel+1) listed ⟨look m,hh⟩:=bT hi hr hw H
theorem DS(i j:Nat){di dj:Nat}{op':Op}{ty':TypeId}{pos':String}{af':Array Edge}{gd':Option (Nat×Bool)}(hi:l[i]?=some ⟨some di,op,ty,pos,af,gd⟩)(hj:l[j]?=some ⟨some dj,op',ty',pos',af',gd'⟩)
    (H1:AStep P ⟨some di,op,ty,pos,af,gd⟩ (CT (look m)) hh (fun x h'=>(Nat.ble tl i=true∨S h')∧AAny P N l.toArray Q S tl fuel (listed.setIfInBounds i true) ⟨look ((di,x)::m),h'⟩))
    (H2:AStep P ⟨some dj,op',ty',pos',af',gd'⟩ (CT (look m)) hh (fun x h'=>(Nat.ble tl j=true∨S h')∧AAny P N l.toArray Q S tl fuel (listed.setIfInBounds j true) ⟨look ((dj,x)::m),h'⟩))
    (hdi:Nat.blt di N.n=true:=by rfl) (hdj:Nat.blt dj N.n=true:=by rfl) (hr:Region.ready .any l.toArray listed=[i,j]:=by kernel_rfl)
    (hwi:Ca l.toArray (look m) ⟨some di,op,ty,pos,af,gd⟩=some true:=by first|rfl|exact BO rfl rfl (EQ ‹_›)|exact BO rfl rfl (ER ‹_›)|exact BO rfl rfl (by simp[*]))
    (hwj:Ca l.toArray (look m) ⟨some dj,op',ty',pos',af',gd'⟩=some true:=by first|rfl|exact BO rfl rfl (EQ ‹_›)|exact BO rfl rfl (ER ‹_›)|exact BO rfl rfl (by simp[*])):AAny P N l.toArray Q S tl (fuel+1) listed ⟨look m,hh⟩:=dL hr hi hdi hwi hj hdj hwj H1 H2
def AllO(P:Program)(N:Dim)(l:List Oper)(Q:Exit→AS→Prop)(S:AH→Prop)(tl fuel:Nat)(listed:Array Bool)(s:AS):List Nat→Prop
 |[]=>True
 |i::is=>AOp P N l.toArray i (fun s'=>(Nat.ble tl i=true∨S s'.h)∧AAny P N l.toArray Q S tl fuel (listed.setIfInBounds i true) s') s∧AllO P N l Q S tl fuel listed s is
theorem AllO.get{s:AS}{i:Nat}:∀{is:List Nat},AllO P N l Q S tl fuel listed s is→i∈is→AOp P N l.toArray i (fun s'=>(Nat.ble tl i=true∨S s'.h)∧AAny P N l.toArray Q S tl fuel (listed.setIfInBounds i true) s') s
 |[],_,h=>by cases h
 |j::is,k,h=>by
   rcases List.mem_cons.1 h with e|e
   ·subst e;exact k.1
   exact AllO.get k.2 e
theorem Sr(i:Nat){is:List Nat}{s:AS}(H:AllO P N l Q S tl fuel listed s (i::is))(hr:Region.ready .any l.toArray listed=i::is:=by kernel_rfl):AAny P N l.toArray Q S tl (fuel+1) listed s:=
 ⟨(fun h0=>by rw[hr]at h0;cases h0),fun j hj=>H.get (by rw[←hr];exact hj)⟩
theorem Lw(i:Nat){d:Nat}{is:List Nat}(hi:l[i]?=some ⟨some d,op,ty,pos,af,gd⟩)(H:AStep P ⟨some d,op,ty,pos,af,gd⟩ (CT (look m)) hh (fun x h'=>(Nat.ble tl i=true∨S h')∧AAny P N l.toArray Q S tl fuel (listed.setIfInBounds i true) ⟨look ((d,x)::m),h'⟩))(R:AllO P N l Q S tl fuel listed ⟨look m,hh⟩ is)(hd:Nat.blt d N.n=true:=by rfl)
    (hw:Ca l.toArray (look m) ⟨some d,op,ty,pos,af,gd⟩=some true:=by first|rfl|exact BO rfl rfl (EQ ‹_›)|exact BO rfl rfl (ER ‹_›)|exact BO rfl rfl (by simp[*])):AllO P N l Q S tl fuel listed ⟨look m,hh⟩ (i::is):=by
 refine⟨?_,R⟩;unfold AOp;simp only[Ky hi];exact⟨hd,true,hw,fun _=>H,fun h=>by cases h⟩
theorem Ss{s:AS}:AllO P N l Q S tl fuel listed s []:=trivial
theorem o_{i:Nat}{A:Prop}{h':AH}(hS:Nat.ble tl i=true∨S h':=by first|exact .inl rfl|exact .inr rfl|exact .inr (by repeat (first|exact O4 _|refine O5 rfl ?_)))(h:A):(Nat.ble tl i=true∨S h')∧A:=⟨hS,h⟩
theorem z_(hr:Region.ready .any l.toArray listed=[]:=by kernel_rfl)(h:Q .normal ⟨look m,hh⟩):AAny P N l.toArray Q S tl fuel listed ⟨look m,hh⟩:=bV hr h fuel
theorem Db(tl:Nat){id:Nat}(hm:P.follows .mixedOrders=true:=by kernel_rfl)(h:AAny P N l.toArray Q (fun h'=>h'=hh) tl l.length (Array.replicate l.length false) ⟨look m,hh⟩):C0 P N (.region id l.toArray true) Q ⟨look m,hh⟩:=bU tl hm h
theorem BS(K:List (Nat×List AV))(tl:Nat){id:Nat}(hm:P.follows .mixedOrders=true:=by kernel_rfl)(h:AAny P N l.toArray Q (KB K) tl l.length (Array.replicate l.length false) ⟨look m,hh⟩):C0 P N (.region id l.toArray true) Q ⟨look m,hh⟩:=QB _ tl hm h
end
section
variable {P:Program}{rs:List ResultVar}{n:Nat}{R:AV→List (List AV)→List CY→Prop}{s:AS}{xs:List AV}{r:AV}
theorem AZ(g:Option Nat){tk':List CY}(h1:ResA P s rs xs:=by repeat (first|exact ResA.nil|(apply ResA.tmp;(focus exact rfl))|(apply ResA.cellN;(focus exact inferInstance);(focus exact rfl);(focus exact rfl);(focus exact rfl))|(apply ResA.cell1;(focus exact inferInstance);(focus exact rfl);(focus exact rfl);(focus exact rfl))))(h2:MT s.h.tk g=some tk':=by rfl)(h3:AW n 1 (EF g (GE xs))=true:=by rfl)(h4:AY n 0 (s.h.bx.take n)=true:=by rfl)(h5:LeA (EF g (GE xs)) r)(h6:R r (s.h.bx.take n) tk'):MU P rs n R .ret s:=Qi g h1 h2 h3 h4 h5 h6
theorem R9(g:Option Nat){tk':List CY}(h1:ResA P s rs xs:=by repeat (first|exact ResA.nil|(apply ResA.tmp;(focus exact rfl))|(apply ResA.cellN;(focus exact inferInstance);(focus exact rfl);(focus exact rfl);(focus exact rfl))|(apply ResA.cell1;(focus exact inferInstance);(focus exact rfl);(focus exact rfl);(focus exact rfl))))(h2:MT s.h.tk g=some tk':=by rfl)(h3:AW n 1 (EF g (GE xs))=true:=by rfl)(h4:AY n 0 (s.h.bx.take n)=true:=by rfl)(h5:LeA (EF g (GE xs)) r)(h6:R r (s.h.bx.take n) tk'):MU P rs n R .normal s:=cK g h1 h2 h3 h4 h5 h6
end
theorem LT{f:Nat→Option AV}{bx rows:List (List AV)}{tk:List CY}{l:List (Nat×AV)}{N:Dim}(is:List Nat)(hn:∀i,i<N.ni→is[i]?=some i:=by exact fun i hi=>absurd hi (Nat.not_lt_zero i))(hnd:is.Nodup:=by decide)(hh:HandK bx (fun j=>JF j is 0) is rows:=by repeat (first|exact .nil|refine .cons _ _ _ _ _ rfl rfl ?_))(hl:SubK (fun j=>JF j is 0) f l:=by repeat (first|exact .nil|refine .cons _ _ _ _ rfl (A7 _) ?_)):Weak N ⟨f,⟨bx,tk⟩⟩ ⟨look l,⟨rows,tk⟩⟩:=GG is hn hnd hh hl
theorem m_{A B:Prop}(k:B→A:=by intro b;first|exact A3 rfl (LO rfl b)|exact As (LO rfl b))(h:B):A:=k h
theorem AF(i:Nat){A B:Prop}(k:Do i B A:=by first|exact D3 rfl (LO rfl ⟨rfl,rfl⟩)|exact D4 rfl (fun _ _=>LO rfl ⟨rfl,rfl⟩))(h:B):A:=k h
theorem a_{A B:Prop}(k:B→A:=by intro b;first|exact A3 rfl (JC rfl b)|exact As (JC rfl b))(h:B):A:=k h
theorem BE(i:Nat){A B:Prop}(k:Do i B A:=by first|exact D3 rfl (JC rfl ⟨rfl,rfl⟩)|exact D4 rfl (fun _ _=>JC rfl ⟨rfl,rfl⟩))(h:B):A:=k h
theorem f_{A B:Prop}(k:B→A:=by intro b;first|exact A3 rfl (JW rfl b)|exact A3 rfl (QM rfl b)|exact As (JW rfl b)|exact As (QM rfl b))(h:B):A:=k h
theorem AD(i:Nat){A B:Prop}(k:Do i B A:=by first|exact D3 rfl (JW rfl ⟨rfl,rfl⟩)|exact D3 rfl (QM rfl ⟨rfl,rfl⟩)|exact D4 rfl (fun _ _=>JW rfl ⟨rfl,rfl⟩)|exact D4 rfl (fun _ _=>QM rfl ⟨rfl,rfl⟩))(h:B):A:=k h
theorem l_{A B:Prop}(k:B→A:=by intro b;first|exact A3 rfl (Dq rfl rfl rfl b)|exact A3 rfl (KY rfl rfl rfl b)|exact A3 rfl (Nv rfl rfl b)|exact A3 rfl (QN rfl rfl b)|exact A3 rfl (MO rfl rfl rfl b)|exact A3 rfl (Oz rfl rfl b)|exact As (Dq rfl rfl rfl b)|exact As (KY rfl rfl rfl b)|exact As (Nv rfl rfl b)|exact As (QN rfl rfl b)|exact As (MO rfl rfl rfl b)|exact As (Oz rfl rfl b))(h:B):A:=k h
theorem AA(i:Nat){A B:Prop}(k:Do i B A:=by first|exact D3 rfl (Dq rfl rfl rfl ⟨rfl,rfl⟩)|exact D3 rfl (KY rfl rfl rfl ⟨rfl,rfl⟩)|exact D3 rfl (Nv rfl rfl ⟨rfl,rfl⟩)|exact D3 rfl (QN rfl rfl ⟨rfl,rfl⟩)|exact D3 rfl (MO rfl rfl rfl ⟨rfl,rfl⟩)|exact D3 rfl (Oz rfl rfl ⟨rfl,rfl⟩)|exact D4 rfl (fun _ hS=>Dq rfl (kb hS rfl) rfl ⟨rfl,rfl⟩)|exact D4 rfl (fun _ hS=>KY rfl (kb hS rfl) rfl ⟨rfl,rfl⟩)|exact D4 rfl (fun _ _=>Nv rfl rfl ⟨rfl,rfl⟩)|exact D4 rfl (fun _ _=>QN rfl rfl ⟨rfl,rfl⟩)|exact D4 rfl (fun _ hS=>MO rfl (kb hS rfl) rfl ⟨rfl,rfl⟩)|exact D4 rfl (fun _ _=>Oz rfl rfl ⟨rfl,rfl⟩))(h:B):A:=k h
theorem s_{A B:Prop}(k:B→A:=by intro b;exact MY (Eo rfl rfl rfl rfl rfl rfl (by repeat constructor) (by repeat constructor) b))(h:B):A:=k h
theorem b_{A B:Prop}(k:B→A:=by intro b;first|exact A3 rfl (Qn rfl rfl (by repeat constructor) b)|exact A3 rfl (Vb rfl rfl (by repeat constructor) b)|exact As (Qn rfl rfl (by repeat constructor) b)|exact As (Vb rfl rfl (by repeat constructor) b))(h:B):A:=k h
theorem Dt{A B:Prop}(k:B→A:=by intro b;first|exact A3 rfl (BV (by repeat constructor) b)|exact As (BV (by repeat constructor) b))(h:B):A:=k h
theorem n_{A B:Prop}(k:B→A:=by intro b;first|exact A3 rfl (Qe rfl b)|exact A3 rfl (Qd (by kernel_rfl) rfl b)|exact A3 rfl (Qf rfl b)|exact As (Qe rfl b)|exact As (Qd (by kernel_rfl) rfl b)|exact As (Qf rfl b))(h:B):A:=k h
theorem Mb(i:Nat){A B:Prop}(k:Do i B A:=by first|exact D3 rfl (Qe rfl ⟨rfl,rfl⟩)|exact D3 rfl (Qd (by kernel_rfl) rfl ⟨rfl,rfl⟩)|exact D3 rfl (Qf rfl ⟨rfl,rfl⟩)|exact D4 rfl (fun _ _=>Qe rfl ⟨rfl,rfl⟩)|exact D4 rfl (fun _ _=>Qd (by kernel_rfl) rfl ⟨rfl,rfl⟩)|exact D4 rfl (fun _ _=>Qf rfl ⟨rfl,rfl⟩))(h:B):A:=k h
theorem Gg{A B:Prop}(k:B→A:=by intro b;first|exact A3 rfl (Dr rfl rfl rfl (by simp<;>omega) (by repeat constructor) b)|exact A3 rfl (Ge rfl rfl (by simp<;>omega) (by repeat constructor) b)|exact As (Dr rfl rfl rfl (by simp<;>omega) (by repeat constructor) b)|exact As (Ge rfl rfl (by simp<;>omega) (by repeat constructor) b))(h:B):A:=k h
theorem x_{A B:Prop}(k:B→A:=by intro b;first|exact A3 rfl (QJ rfl rfl b)|exact As (QJ rfl rfl b))(h:B):A:=k h
theorem Ay(i:Nat){A B:Prop}(k:Do i B A:=by first|exact D3 rfl (QJ rfl rfl ⟨rfl,rfl⟩)|exact D4 rfl (fun _ _=>QJ rfl rfl ⟨rfl,rfl⟩))(h:B):A:=k h
theorem k_{A B:Prop}(k:B→A:=by intro b;first|exact A3 rfl (QK rfl b)|exact A3 rfl (QL rfl b)|exact As (QK rfl b)|exact As (QL rfl b))(h:B):A:=k h
theorem BM(i:Nat){A B:Prop}(k:Do i B A:=by first|exact D3 rfl (QK rfl ⟨rfl,rfl⟩)|exact D3 rfl (QL rfl ⟨rfl,rfl⟩)|exact D4 rfl (fun _ _=>QK rfl ⟨rfl,rfl⟩)|exact D4 rfl (fun _ _=>QL rfl ⟨rfl,rfl⟩))(h:B):A:=k h
theorem Bq{A B:Prop}(k:B→A:=by intro b;first|exact A3 rfl (P5 (by repeat (first|exact FillA.nil _|(apply FillA.cons;(focus exact rfl);(focus exact rfl);(focus exact rfl);(focus exact rfl);(focus exact rfl);(focus (repeat constructor))))) b)|exact As (P5 (by repeat (first|exact FillA.nil _|(apply FillA.cons;(focus exact rfl);(focus exact rfl);(focus exact rfl);(focus exact rfl);(focus exact rfl);(focus (repeat constructor))))) b))(h:B):A:=k h
theorem LU(i:Nat){A B:Prop}(k:Do i B A:=by first|exact D3 rfl (P5 (by repeat (first|exact FillA.nil _|(apply FillA.cons;(focus exact rfl);(focus exact rfl);(focus exact rfl);(focus exact rfl);(focus exact rfl);(focus (repeat constructor))))) ⟨rfl,rfl⟩)|exact D4 rfl (fun _ _=>P5 (by repeat (first|exact FillA.nil _|(apply FillA.cons;(focus exact rfl);(focus exact rfl);(focus exact rfl);(focus exact rfl);(focus exact rfl);(focus (repeat constructor))))) ⟨rfl,rfl⟩))(h:B):A:=k h
theorem BY{A B:Prop}(k:B→A:=by intro b;first|exact A3 rfl (P6 (by repeat (first|exact DenseA.nil _|(apply DenseA.cons;(focus exact rfl);(focus exact rfl);(focus exact rfl);(focus exact rfl))|(apply DenseA.consE;(focus exact rfl);(focus exact rfl);(focus exact rfl)))) rfl rfl rfl rfl b)|exact As (P6 (by repeat (first|exact DenseA.nil _|(apply DenseA.cons;(focus exact rfl);(focus exact rfl);(focus exact rfl);(focus exact rfl))|(apply DenseA.consE;(focus exact rfl);(focus exact rfl);(focus exact rfl)))) rfl rfl rfl rfl b))(h:B):A:=k h
theorem Ho(i:Nat){A B:Prop}(k:Do i B A:=by first|exact D3 rfl (P6 (by repeat (first|exact DenseA.nil _|(apply DenseA.cons;(focus exact rfl);(focus exact rfl);(focus exact rfl);(focus exact rfl))|(apply DenseA.consE;(focus exact rfl);(focus exact rfl);(focus exact rfl)))) rfl rfl rfl rfl ⟨rfl,rfl⟩)|exact D4 rfl (fun _ _=>P6 (by repeat (first|exact DenseA.nil _|(apply DenseA.cons;(focus exact rfl);(focus exact rfl);(focus exact rfl);(focus exact rfl))|(apply DenseA.consE;(focus exact rfl);(focus exact rfl);(focus exact rfl)))) rfl rfl rfl rfl ⟨rfl,rfl⟩))(h:B):A:=k h
theorem Bj{A B:Prop}(k:B→A:=by intro b;first|exact A3 rfl (Qx b)|exact As (Qx b))(h:B):A:=k h
theorem JZ(i:Nat){A B:Prop}(k:Do i B A:=by first|exact D3 rfl (Qx ⟨rfl,rfl⟩)|exact D4 rfl (fun _ _=>Qx ⟨rfl,rfl⟩))(h:B):A:=k h
theorem Bp{A B:Prop}(k:B→A:=by intro b;first|exact A3 rfl (Qy b)|exact As (Qy b))(h:B):A:=k h
theorem Gi(i:Nat){A B:Prop}(k:Do i B A:=by first|exact D3 rfl (Qy ⟨rfl,rfl⟩)|exact D4 rfl (fun _ _=>Qy ⟨rfl,rfl⟩))(h:B):A:=k h
theorem Su{A B:Prop}(k:B→A:=by intro b;first|exact A3 rfl (VA rfl b)|exact As (VA rfl b))(h:B):A:=k h
theorem i_{A B:Prop}(k:B→A:=by intro b;first|exact A3 rfl (DA rfl rfl rfl (by first|assumption|rfl) b)|exact As (DA rfl rfl rfl (by first|assumption|rfl) b))(h:B):A:=k h
theorem DK(i:Nat){A B:Prop}(k:Do i B A:=by first|exact D3 rfl (DA rfl rfl rfl (by first|assumption|rfl) ⟨rfl,rfl⟩)|exact D4 rfl (fun _ _=>DA rfl rfl rfl (by first|assumption|rfl) ⟨rfl,rfl⟩))(h:B):A:=k h
theorem dM{A B:Prop}(k:B→A:=by intro b;first|exact A3 rfl (Sc rfl rfl (by omega) (by repeat constructor) b)|exact As (Sc rfl rfl (by omega) (by repeat constructor) b))(h:B):A:=k h
theorem Cr{A B:Prop}(k:B→A:=by intro b;first|exact A3 rfl (Qc rfl b)|exact As (Qc rfl b))(h:B):A:=k h
theorem Sv(i:Nat){A B:Prop}(k:Do i B A:=by first|exact D3 rfl (Qc rfl ⟨rfl,rfl⟩)|exact D4 rfl (fun _ _=>Qc rfl ⟨rfl,rfl⟩))(h:B):A:=k h
theorem ES{A B:Prop}(k:B→A:=by intro b;first|exact A3 rfl (Ny rfl rfl (by omega) b)|exact A3 rfl (H7 rfl rfl (by omega) b)|exact A3 rfl (ST rfl rfl b)|exact As (Ny rfl rfl (by omega) b)|exact As (H7 rfl rfl (by omega) b)|exact As (ST rfl rfl b))(h:B):A:=k h
theorem L4{A B:Prop}(k:B→A:=by intro b;first|exact A3 rfl (MQ rfl rfl (by omega) b)|exact A3 rfl (P4 rfl rfl b)|exact As (MQ rfl rfl (by omega) b)|exact As (P4 rfl rfl b))(h:B):A:=k h
theorem Sw(i:Nat){A B:Prop}(k:Do i B A:=by first|exact D3 rfl (MQ rfl rfl (by omega) ⟨rfl,rfl⟩)|exact D3 rfl (P4 rfl rfl ⟨rfl,rfl⟩)|exact D4 rfl (fun _ _=>MQ rfl rfl (by omega) ⟨rfl,rfl⟩)|exact D4 rfl (fun _ _=>P4 rfl rfl ⟨rfl,rfl⟩))(h:B):A:=k h
theorem dN{A B:Prop}(k:B→A:=by intro b;first|exact A3 rfl (VH rfl rfl b)|exact As (VH rfl rfl b))(h:B):A:=k h
theorem EH{A B:Prop}(k:B→A:=by intro b;first|exact A3 rfl (QS rfl rfl b)|exact A3 rfl (QY rfl rfl b)|exact A3 rfl (Qq (by kernel_rfl) rfl rfl b)|exact As (QS rfl rfl b)|exact As (QY rfl rfl b)|exact As (Qq (by kernel_rfl) rfl rfl b))(h:B):A:=k h
theorem K7(i:Nat){A B:Prop}(k:Do i B A:=by first|exact D3 rfl (QS rfl rfl ⟨rfl,rfl⟩)|exact D3 rfl (QY rfl rfl ⟨rfl,rfl⟩)|exact D3 rfl (Qq (by kernel_rfl) rfl rfl ⟨rfl,rfl⟩)|exact D4 rfl (fun _ _=>QS rfl rfl ⟨rfl,rfl⟩)|exact D4 rfl (fun _ _=>QY rfl rfl ⟨rfl,rfl⟩)|exact D4 rfl (fun _ _=>Qq (by kernel_rfl) rfl rfl ⟨rfl,rfl⟩))(h:B):A:=k h
theorem GH{A B:Prop}(k:B→A:=by intro b;first|exact A3 rfl (QT rfl rfl b)|exact A3 rfl (QZ rfl rfl b)|exact A3 rfl (Qr (by kernel_rfl) rfl rfl b)|exact As (QT rfl rfl b)|exact As (QZ rfl rfl b)|exact As (Qr (by kernel_rfl) rfl rfl b))(h:B):A:=k h
theorem NG(i:Nat){A B:Prop}(k:Do i B A:=by first|exact D3 rfl (QT rfl rfl ⟨rfl,rfl⟩)|exact D3 rfl (QZ rfl rfl ⟨rfl,rfl⟩)|exact D3 rfl (Qr (by kernel_rfl) rfl rfl ⟨rfl,rfl⟩)|exact D4 rfl (fun _ _=>QT rfl rfl ⟨rfl,rfl⟩)|exact D4 rfl (fun _ _=>QZ rfl rfl ⟨rfl,rfl⟩)|exact D4 rfl (fun _ _=>Qr (by kernel_rfl) rfl rfl ⟨rfl,rfl⟩))(h:B):A:=k h
theorem K8{A B:Prop}(k:B→A:=by intro b;first|exact A3 rfl (QU rfl rfl b)|exact A3 rfl (Qa rfl rfl b)|exact As (QU rfl rfl b)|exact As (Qa rfl rfl b))(h:B):A:=k h
theorem dO(i:Nat){A B:Prop}(k:Do i B A:=by first|exact D3 rfl (QU rfl rfl ⟨rfl,rfl⟩)|exact D3 rfl (Qa rfl rfl ⟨rfl,rfl⟩)|exact D4 rfl (fun _ _=>QU rfl rfl ⟨rfl,rfl⟩)|exact D4 rfl (fun _ _=>Qa rfl rfl ⟨rfl,rfl⟩))(h:B):A:=k h
theorem HA{A B:Prop}(k:B→A:=by intro b;first|exact A3 rfl (QV rfl rfl b)|exact As (QV rfl rfl b))(h:B):A:=k h
theorem dP(i:Nat){A B:Prop}(k:Do i B A:=by first|exact D3 rfl (QV rfl rfl ⟨rfl,rfl⟩)|exact D4 rfl (fun _ _=>QV rfl rfl ⟨rfl,rfl⟩))(h:B):A:=k h
theorem E6{A B:Prop}(k:B→A:=by intro b;first|exact A3 rfl (QW rfl rfl b)|exact As (QW rfl rfl b))(h:B):A:=k h
theorem Sx(i:Nat){A B:Prop}(k:Do i B A:=by first|exact D3 rfl (QW rfl rfl ⟨rfl,rfl⟩)|exact D4 rfl (fun _ _=>QW rfl rfl ⟨rfl,rfl⟩))(h:B):A:=k h
theorem EJ{A B:Prop}(k:B→A:=by intro b;first|exact A3 rfl (QX rfl rfl b)|exact A3 rfl (Qb rfl rfl b)|exact As (QX rfl rfl b)|exact As (Qb rfl rfl b))(h:B):A:=k h
theorem Vx(i:Nat){A B:Prop}(k:Do i B A:=by first|exact D3 rfl (QX rfl rfl ⟨rfl,rfl⟩)|exact D3 rfl (Qb rfl rfl ⟨rfl,rfl⟩)|exact D4 rfl (fun _ _=>QX rfl rfl ⟨rfl,rfl⟩)|exact D4 rfl (fun _ _=>Qb rfl rfl ⟨rfl,rfl⟩))(h:B):A:=k h
theorem FC{A B:Prop}(k:B→A:=by intro b;first|exact A3 rfl (Vd rfl rfl b)|exact As (Vd rfl rfl b))(h:B):A:=k h
theorem at_{A B:Prop}(k:B→A:=by intro b;first|exact A3 rfl (Vl rfl rfl b)|exact As (Vl rfl rfl b))(h:B):A:=k h
theorem dQ{A B:Prop}(k:B→A:=by intro b;first|exact A3 rfl (Ve rfl rfl b)|exact As (Ve rfl rfl b))(h:B):A:=k h
theorem RA{A B:Prop}(k:B→A:=by intro b;first|exact A3 rfl (Vf rfl rfl (by omega) b)|exact As (Vf rfl rfl (by omega) b))(h:B):A:=k h
theorem Bk{f:Nat→Option AV}{bx:List (List AV)}{tk:List (Nat×Nat×List (List AV))}{l:List (Nat×AV)}{N:Dim}(n m:Nat){bx':List (List AV)}{tk':List (Nat×Nat×List (List AV))}(hbp:AY n m bx'=true)(hn:Nat.ble N.ni n=true:=by rfl)(hb:bx.take n=bx':=by rfl)(ht:tk.take m=tk':=by rfl)(hl:Sub n m f l:=by repeat (first|exact Sub.nil|refine Sub.cons _ _ _ rfl rfl ?_|refine Sub.any _ _ ?_|refine Sub.sl _ _ _ _ _ rfl ?_|refine Sub.slnil _ _ _ rfl ?_)):Weak N ⟨f,⟨bx,tk⟩⟩ ⟨look l,⟨bx',tk'⟩⟩:=Ai n m hn hb ht hbp hl
theorem Dz{P:Program}{ev:Operand→Option AV}{h:AH}{R:AV→AH→Prop}{d:Option Tmp}{ty:TypeId}{pos:String}{af:Array Edge}{gd:Option (Nat×Bool)}{T:TypeId}{l:List (Nat×Operand)}{pl:List (Nat×Nat)}{row cs:List AV}[hp:Plc P T pl][hz:Zer P T row](hR:R (.agg cs) h)(hf:FillA pl ev row l cs:=by repeat (first|exact FillA.nil _|(apply FillA.cons;(focus exact rfl);(focus exact rfl);(focus exact rfl);(focus exact rfl);(focus exact rfl);(focus (repeat constructor))))):AStep P ⟨d, .build T l.toArray,ty,pos,af,gd⟩ ev h R:=P5 hf hR
theorem Hp{P:Program}{ev:Operand→Option AV}{h:AH}{R:AV→AH→Prop}{o:Oper}{x y:AV}(hs:AStep P o ev h fun r h'=>r=x∧h'=h)(hR:R y h)(hl:LeA x y:=by repeat (first|exact A7 _|exact LeA.nil _|exact LeL.refl _|refine LeA.agg ?_|refine LeA.tup ?_|exact LeL.nil|refine LeL.cons ?_ ?_|exact LeA.any _)):AStep P o ev h R:=Hk hs hl hR
theorem A4{P:Program}{N:Dim}{Q:Exit→AS→Prop}{s:AS}{c:Operand}{x y:Code}{t:Bool}{p q:Prop}[BP t true p][BP t false q](hc:CT s.sl c=some (.v (.bool t)))(ht:t=true→p→C0 P N x Q s)(hf:t=false→q→C0 P N y Q s):C0 P N (.cond c x y) Q s:=SF hc (fun h=>ht h (bp h)) (fun h=>hf h (bp h))
theorem AJ{P:Program}{N:Dim}{Q:Exit→AS→Prop}{ops:Array Oper}{rest:List Oper}{l:List (Nat×AV)}{hh:AH}{o:Oper}{j:Nat}{t:Bool}{p q:Prop}[BP t true p][BP t false q](want:Bool)(hg:o.guard=some (j,want))(hy:yv ops (look l) j=some (some t))(h1:t=true→p→AL P N ops Q (o::rest) ⟨look l,hh⟩)(h2:t=false→q→AL P N ops Q (o::rest) ⟨look l,hh⟩):AL P N ops Q (o::rest) ⟨look l,hh⟩:=cU want hg hy (fun h=>h1 h (bp h)) (fun h=>h2 h (bp h))
theorem Ax{n m i:Nat}{r:AV}{bx bx':List (List AV)}{xs:List (List AV)}{Z:List (List AV)→Prop}(h:Z bx')(h1:AW n m r=true:=by rfl)(hs:SetAt bx i xs bx':=by repeat constructor):AW n m r=true∧∃b,SetAt bx i xs b∧Z b:=⟨h1,bx',hs,h⟩
theorem dR{P:Program}{N:Dim}{l:List Oper}{Q:Exit→AS→Prop}{S:AH→Prop}{tl fuel:Nat}{listed:Array Bool}{m:List (Nat×AV)}{ty:TypeId}{pos:String}{af:Array Edge}{gd:Option (Nat×Bool)}{bx bx':List (List AV)}{tk:List CY}{i T sz a o:Nat}{ag:Bool}{x y:Operand}{av:AV}{row row':List AV}[Typ P T sz ag](hi:l[i]?=some ⟨none,.store T x y,ty,pos,af,gd⟩)(hx:CT (look m) x=some (.bp a o))(hy:CT (look m) y=some av)(hb:bx[a]?=some row)(h1:JD (CU av)=true)(hl:Nat.beq (CU av).length sz=true)(hpos:Nat.blt 0 sz=true)(hs:SetAt row o (CU av) row')(hset:SetAt bx a [row'] bx')(hr:Region.ready .any l.toArray listed=[i])(hw:Ca l.toArray (look m) ⟨none,.store T x y,ty,pos,af,gd⟩=some true)(hS:Nat.ble tl i=true∨S ⟨bx',tk⟩):Do i (AAny P N l.toArray Q S tl fuel (listed.setIfInBounds i true) ⟨look m,⟨bx',tk⟩⟩) (AAny P N l.toArray Q S tl (fuel+1) listed ⟨look m,⟨bx,tk⟩⟩):=fun H=>Hn i hi (Eo hx hy hb h1 hl hpos hs hset ⟨hS,H⟩) hr hw
theorem Ak(i:Nat){A B:Prop}(k:Do i B A:=by exact dR rfl rfl rfl rfl rfl rfl rfl (by repeat constructor) (by repeat constructor) (by kernel_rfl) (by first|rfl|exact BO rfl rfl (EQ ‹_›)|exact BO rfl rfl (ER ‹_›)|exact BO rfl rfl (by simp[*])) (by first|exact .inl rfl|exact .inr rfl|exact .inr (by repeat (first|exact O4 _|refine O5 rfl ?_))))(h:B):A:=k h
theorem E7{A:Prop}(h:False:=by first|contradiction|omega):A:=h.elim
structure HsB (B:Prop):Prop where
 h:B
theorem B7{A B:Prop}(k:HsB B→A:=by intro b;exact a_ (h:=e_ (b.1)))(h:B):A:=k ⟨h⟩
theorem Ab{A B:Prop}(k:HsB B→A:=by intro b;exact f_ (h:=l_ (h:=b.1)))(h:B):A:=k ⟨h⟩
theorem BD{A B:Prop}(k:HsB B→A:=by intro b;exact Dg (h:=Dg (h:=b.1)))(h:B):A:=k ⟨h⟩
theorem BJ{A B:Prop}(k:HsB B→A:=by intro b;exact B7 (h:=B8 (b.1)))(h:B):A:=k ⟨h⟩
theorem Aa{A B:Prop}(k:HsB B→A:=by intro b;exact w_ (m_ (h:=b.1)))(h:B):A:=k ⟨h⟩
theorem Hq{A B:Prop}(k:HsB B→A:=by intro b;exact BD (h:=Dg (h:=b.1)))(h:B):A:=k ⟨h⟩
theorem Kc{A B:Prop}(k:HsB B→A:=by intro b;exact w_ (BJ (h:=b.1)))(h:B):A:=k ⟨h⟩
theorem Bv{A B:Prop}(k:HsB B→A:=by intro b;exact q_ (Aa (h:=b.1)))(h:B):A:=k ⟨h⟩
theorem Az{A B:Prop}(k:HsB B→A:=by intro b;exact w_ (Ab (h:=b.1)))(h:B):A:=k ⟨h⟩
theorem Ed{A B:Prop}(k:HsB B→A:=by intro b;exact EH (h:=B7 (h:=b.1)))(h:B):A:=k ⟨h⟩
theorem Hr{A B:Prop}(k:HsB B→A:=by intro b;exact Hq (h:=Bj (h:=b.1)))(h:B):A:=k ⟨h⟩
theorem BT{A B:Prop}(k:HsB B→A:=by intro b;exact BD (h:=BD (h:=b.1)))(h:B):A:=k ⟨h⟩
theorem E0{A B:Prop}(k:HsB B→A:=by intro b;exact Bq (h:=s_ (h:=b.1)))(h:B):A:=k ⟨h⟩
theorem NH{A B:Prop}(k:HsB B→A:=by intro b;exact Dt (h:=s_ (h:=b.1)))(h:B):A:=k ⟨h⟩
theorem CF{A B:Prop}(k:HsB B→A:=by intro b;exact w_ (l_ (h:=b.1)))(h:B):A:=k ⟨h⟩
theorem Bh{A B:Prop}(k:HsB B→A:=by intro b;exact Bp (h:=m_ (h:=b.1)))(h:B):A:=k ⟨h⟩
theorem C5{A B:Prop}(k:HsB B→A:=by intro b;exact Av (m_ (h:=b.1)))(h:B):A:=k ⟨h⟩
theorem Bw{A B:Prop}(k:HsB B→A:=by intro b;exact B7 (h:=Bv (h:=b.1)))(h:B):A:=k ⟨h⟩
theorem L5{A B:Prop}(k:HsB B→A:=by intro b;exact x_ (h:=x_ (h:=b.1)))(h:B):A:=k ⟨h⟩
theorem E8{A B:Prop}(k:HsB B→A:=by intro b;exact BJ (h:=Bu (b.1)))(h:B):A:=k ⟨h⟩
theorem C4{A B:Prop}(k:HsB B→A:=by intro b;exact B7 (h:=Aa (h:=b.1)))(h:B):A:=k ⟨h⟩
theorem NJ{A B:Prop}(k:HsB B→A:=by intro b;exact Ma (h:=Ma (h:=b.1)))(h:B):A:=k ⟨h⟩
theorem Cb{A B:Prop}(k:HsB B→A:=by intro b;exact f_ (h:=s_ (h:=b.1)))(h:B):A:=k ⟨h⟩
theorem HG{A B:Prop}(k:HsB B→A:=by intro b;exact a_ (h:=C1 (b.1)))(h:B):A:=k ⟨h⟩
theorem GJ{A B:Prop}(k:HsB B→A:=by intro b;exact m_ (h:=L5 (h:=b.1)))(h:B):A:=k ⟨h⟩
theorem C6{A B:Prop}(k:HsB B→A:=by intro b;exact w_ (b_ (h:=b.1)))(h:B):A:=k ⟨h⟩
theorem Cv{A B:Prop}(k:HsB B→A:=by intro b;exact K2 (Bu (b.1)))(h:B):A:=k ⟨h⟩
theorem BC{A B:Prop}(k:HsB B→A:=by intro b;exact BJ (h:=Cv (h:=b.1)))(h:B):A:=k ⟨h⟩
theorem Bl{A B:Prop}(k:HsB B→A:=by intro b;exact Kc (h:=Cv (h:=b.1)))(h:B):A:=k ⟨h⟩
theorem BA{A B:Prop}(k:HsB B→A:=by intro b;exact Kc (h:=Bu (b.1)))(h:B):A:=k ⟨h⟩
theorem RB{A B:Prop}(k:HsB B→A:=by intro b;exact C5 (h:=ES (h:=b.1)))(h:B):A:=k ⟨h⟩
theorem B1{A B:Prop}(k:HsB B→A:=by intro b;exact w_ (Ed (h:=b.1)))(h:B):A:=k ⟨h⟩
theorem Dh{A B:Prop}(k:HsB B→A:=by intro b;exact C6 (h:=b_ (h:=b.1)))(h:B):A:=k ⟨h⟩
theorem NK{A B:Prop}(k:HsB B→A:=by intro b;exact RB (h:=HG (h:=b.1)))(h:B):A:=k ⟨h⟩
theorem CG{A B:Prop}(k:HsB B→A:=by intro b;exact CF (h:=l_ (h:=b.1)))(h:B):A:=k ⟨h⟩
theorem Vy{A B:Prop}(k:HsB B→A:=by intro b;exact E0 (h:=E8 (h:=b.1)))(h:B):A:=k ⟨h⟩
theorem Ee{A B:Prop}(k:HsB B→A:=by intro b;exact GJ (h:=NH (h:=b.1)))(h:B):A:=k ⟨h⟩
theorem ET{A B:Prop}(k:HsB B→A:=by intro b;exact f_ (h:=Ab (h:=b.1)))(h:B):A:=k ⟨h⟩
theorem Ch{A B:Prop}(k:HsB B→A:=by intro b;exact Hr (h:=m_ (h:=b.1)))(h:B):A:=k ⟨h⟩
theorem Cw{A B:Prop}(k:HsB B→A:=by intro b;exact w_ (B7 (h:=b.1)))(h:B):A:=k ⟨h⟩
theorem C7{A B:Prop}(k:HsB B→A:=by intro b;exact Bj (h:=m_ (h:=b.1)))(h:B):A:=k ⟨h⟩
theorem DC{A B:Prop}(k:HsB B→A:=by intro b;exact Hq (h:=Bp (h:=b.1)))(h:B):A:=k ⟨h⟩
theorem D5{A B:Prop}(k:HsB B→A:=by intro b;exact Ab (h:=GH (h:=b.1)))(h:B):A:=k ⟨h⟩
theorem EU{A B:Prop}(k:HsB B→A:=by intro b;exact a_ (h:=E8 (h:=b.1)))(h:B):A:=k ⟨h⟩
theorem BN{A B:Prop}(k:HsB B→A:=by intro b;exact EH (h:=e_ (b.1)))(h:B):A:=k ⟨h⟩
theorem Ci{A B:Prop}(k:HsB B→A:=by intro b;exact q_ (Az (h:=b.1)))(h:B):A:=k ⟨h⟩
theorem Ef{A B:Prop}(k:HsB B→A:=by intro b;exact Ab (h:=n_ (h:=b.1)))(h:B):A:=k ⟨h⟩
theorem Cj{A B:Prop}(k:HsB B→A:=by intro b;exact K8 (h:=e_ (b.1)))(h:B):A:=k ⟨h⟩
theorem NL{A B:Prop}(k:HsB B→A:=by intro b;exact e_ (Fr (h:=b.1)))(h:B):A:=k ⟨h⟩
theorem Fh{A B:Prop}(k:HsB B→A:=by intro b;exact Hq (h:=Bh (h:=b.1)))(h:B):A:=k ⟨h⟩
theorem CV{A B:Prop}(k:HsB B→A:=by intro b;exact Bp (h:=e_ (b.1)))(h:B):A:=k ⟨h⟩
theorem Cx{A B:Prop}(k:HsB B→A:=by intro b;exact Ab (h:=EH (h:=b.1)))(h:B):A:=k ⟨h⟩
theorem RC{A B:Prop}(k:HsB B→A:=by intro b;exact NK (h:=AM (b.1)))(h:B):A:=k ⟨h⟩
theorem Bn{A B:Prop}(k:HsB B→A:=by intro b;exact GH (h:=e_ (b.1)))(h:B):A:=k ⟨h⟩
theorem Fs{A B:Prop}(k:HsB B→A:=by intro b;exact CF (h:=s_ (h:=b.1)))(h:B):A:=k ⟨h⟩
theorem Br{A B:Prop}(k:HsB B→A:=by intro b;exact w_ (Vy (h:=b.1)))(h:B):A:=k ⟨h⟩
theorem K9{A B:Prop}(k:HsB B→A:=by intro b;exact Bj (h:=NL (h:=b.1)))(h:B):A:=k ⟨h⟩
theorem dS{A B:Prop}(k:HsB B→A:=by intro b;exact t_ (RC (h:=b.1)))(h:B):A:=k ⟨h⟩
theorem FD{A B:Prop}(k:HsB B→A:=by intro b;exact BB (dS (h:=b.1)))(h:B):A:=k ⟨h⟩
theorem DD{A B:Prop}(k:HsB B→A:=by intro b;exact m_ (h:=EH (h:=b.1)))(h:B):A:=k ⟨h⟩
theorem JJ{A B:Prop}(k:HsB B→A:=by intro b;exact m_ (h:=i_ (h:=b.1)))(h:B):A:=k ⟨h⟩
theorem DE{A B:Prop}(k:HsB B→A:=by intro b;exact Cr (h:=e_ (b.1)))(h:B):A:=k ⟨h⟩
theorem JK{A B:Prop}(k:HsB B→A:=by intro b;exact Ee (h:=Bw (h:=b.1)))(h:B):A:=k ⟨h⟩
theorem Di{A B:Prop}(k:HsB B→A:=by intro b;exact K8 (h:=m_ (h:=b.1)))(h:B):A:=k ⟨h⟩
theorem Dj{A B:Prop}(k:HsB B→A:=by intro b;exact k_ (h:=ET (h:=b.1)))(h:B):A:=k ⟨h⟩
theorem Du{A B:Prop}(k:HsB B→A:=by intro b;exact Bv (h:=m_ (h:=b.1)))(h:B):A:=k ⟨h⟩
theorem O6{A B:Prop}(k:HsB B→A:=by intro b;exact Cw (h:=BH (b.1)))(h:B):A:=k ⟨h⟩
theorem E1{A B:Prop}(k:HsB B→A:=by intro b;exact EH (h:=m_ (h:=b.1)))(h:B):A:=k ⟨h⟩
theorem Dk{A B:Prop}(k:HsB B→A:=by intro b;exact NH (h:=e_ (b.1)))(h:B):A:=k ⟨h⟩
theorem Vz{A B:Prop}(k:HsB B→A:=by intro b;exact t_ (Kc (h:=b.1)))(h:B):A:=k ⟨h⟩
theorem E9{A B:Prop}(k:HsB B→A:=by intro b;exact Aa (h:=m_ (h:=b.1)))(h:B):A:=k ⟨h⟩
theorem EA{A B:Prop}(k:HsB B→A:=by intro b;exact Aa (h:=BJ (h:=b.1)))(h:B):A:=k ⟨h⟩
theorem EB{A B:Prop}(k:HsB B→A:=by intro b;exact Bu (Cv (h:=b.1)))(h:B):A:=k ⟨h⟩
theorem Ja{A B:Prop}(k:HsB B→A:=by intro b;exact Dt (h:=B7 (h:=b.1)))(h:B):A:=k ⟨h⟩
theorem EK{A B:Prop}(k:HsB B→A:=by intro b;exact Hr (h:=NL (h:=b.1)))(h:B):A:=k ⟨h⟩
theorem CW{A B:Prop}(k:HsB B→A:=by intro b;exact q_ (O6 (h:=b.1)))(h:B):A:=k ⟨h⟩
theorem EV{A B:Prop}(k:HsB B→A:=by intro b;exact Cr (h:=m_ (h:=b.1)))(h:B):A:=k ⟨h⟩
theorem Lx{A B:Prop}(k:HsB B→A:=by intro b;exact NJ (h:=Ma (h:=b.1)))(h:B):A:=k ⟨h⟩
theorem EW{A B:Prop}(k:HsB B→A:=by intro b;exact Bj (h:=B7 (h:=b.1)))(h:B):A:=k ⟨h⟩
theorem EX{A B:Prop}(k:HsB B→A:=by intro b;exact C5 (h:=m_ (h:=b.1)))(h:B):A:=k ⟨h⟩
theorem D6{A B:Prop}(k:HsB B→A:=by intro b;exact C1 (AM (b.1)))(h:B):A:=k ⟨h⟩
theorem Eg{A B:Prop}(k:HsB B→A:=by intro b;exact Fr (h:=Bl (h:=b.1)))(h:B):A:=k ⟨h⟩
theorem Ck{A B:Prop}(k:HsB B→A:=by intro b;exact HG (h:=AM (b.1)))(h:B):A:=k ⟨h⟩
theorem FE{A B:Prop}(k:HsB B→A:=by intro b;exact K9 (h:=BA (h:=b.1)))(h:B):A:=k ⟨h⟩
theorem LV{A B:Prop}(k:HsB B→A:=by intro b;exact NJ (h:=NJ (h:=b.1)))(h:B):A:=k ⟨h⟩
theorem FF{A B:Prop}(k:HsB B→A:=by intro b;exact CF (h:=m_ (h:=b.1)))(h:B):A:=k ⟨h⟩
theorem dT{A B:Prop}(k:HsB B→A:=by intro b;exact E0 (h:=EU (h:=b.1)))(h:B):A:=k ⟨h⟩
theorem D7{A B:Prop}(k:HsB B→A:=by intro b;exact Cb (h:=e_ (b.1)))(h:B):A:=k ⟨h⟩
theorem D8{A B:Prop}(k:HsB B→A:=by intro b;exact AG (Ci (h:=b.1)))(h:B):A:=k ⟨h⟩
theorem FV{A B:Prop}(k:HsB B→A:=by intro b;exact Dh (h:=B7 (h:=b.1)))(h:B):A:=k ⟨h⟩
theorem FW{A B:Prop}(k:HsB B→A:=by intro b;exact GH (h:=m_ (h:=b.1)))(h:B):A:=k ⟨h⟩
theorem FX{A B:Prop}(k:HsB B→A:=by intro b;exact Bp (h:=D6 (h:=b.1)))(h:B):A:=k ⟨h⟩
theorem DL{A B:Prop}(k:HsB B→A:=by intro b;exact BF (FD (h:=b.1)))(h:B):A:=k ⟨h⟩
theorem Fi{A B:Prop}(k:HsB B→A:=by intro b;exact BT (h:=Bj (h:=b.1)))(h:B):A:=k ⟨h⟩
theorem Fj{A B:Prop}(k:HsB B→A:=by intro b;exact CV (h:=JH (h:=b.1)))(h:B):A:=k ⟨h⟩
theorem Sy{A B:Prop}(k:HsB B→A:=by intro b;exact Bv (h:=Ef (h:=b.1)))(h:B):A:=k ⟨h⟩
theorem DT{A B:Prop}(k:HsB B→A:=by intro b;exact Dt (h:=e_ (b.1)))(h:B):A:=k ⟨h⟩
theorem Ft{A B:Prop}(k:HsB B→A:=by intro b;exact a_ (h:=BC (h:=b.1)))(h:B):A:=k ⟨h⟩
theorem Fu{A B:Prop}(k:HsB B→A:=by intro b;exact Az (h:=JJ (h:=b.1)))(h:B):A:=k ⟨h⟩
theorem Sz{A B:Prop}(k:HsB B→A:=by intro b;exact Bq (h:=m_ (h:=b.1)))(h:B):A:=k ⟨h⟩
theorem Dl{A B:Prop}(k:HsB B→A:=by intro b;exact AG (Bv (h:=b.1)))(h:B):A:=k ⟨h⟩
theorem T0{A B:Prop}(k:HsB B→A:=by intro b;exact N5 (LR (b.1)))(h:B):A:=k ⟨h⟩
theorem dU{A B:Prop}(k:HsB B→A:=by intro b;exact T0 (h:=LR (b.1)))(h:B):A:=k ⟨h⟩
theorem L6{A B:Prop}(k:HsB B→A:=by intro b;exact dU (h:=Lt (b.1)))(h:B):A:=k ⟨h⟩
theorem CK{A B:Prop}(k:HsB B→A:=by intro b;exact L6 (h:=t_ (b.1)))(h:B):A:=k ⟨h⟩
theorem GK{A B:Prop}(k:HsB B→A:=by intro b;exact L6 (h:=Vz (h:=b.1)))(h:B):A:=k ⟨h⟩
theorem GL{A B:Prop}(k:HsB B→A:=by intro b;exact l_ (h:=l_ (h:=b.1)))(h:B):A:=k ⟨h⟩
theorem GM{A B:Prop}(k:HsB B→A:=by intro b;exact B7 (h:=JH (h:=b.1)))(h:B):A:=k ⟨h⟩
theorem GN{A B:Prop}(k:HsB B→A:=by intro b;exact Sy (h:=Cj (h:=b.1)))(h:B):A:=k ⟨h⟩
theorem GO{A B:Prop}(k:HsB B→A:=by intro b;exact BD (h:=Fh (h:=b.1)))(h:B):A:=k ⟨h⟩
theorem FY{A B:Prop}(k:HsB B→A:=by intro b;exact AG (q_ (b.1)))(h:B):A:=k ⟨h⟩
theorem C2{A B:Prop}(k:HsB B→A:=by intro b;exact FY (h:=BH (b.1)))(h:B):A:=k ⟨h⟩
theorem Gj{A B:Prop}(k:HsB B→A:=by intro b;exact Ab (h:=m_ (h:=b.1)))(h:B):A:=k ⟨h⟩
theorem Gk{A B:Prop}(k:HsB B→A:=by intro b;exact Bj (h:=BJ (h:=b.1)))(h:B):A:=k ⟨h⟩
theorem Gl{A B:Prop}(k:HsB B→A:=by intro b;exact BT (h:=Lx (h:=b.1)))(h:B):A:=k ⟨h⟩
theorem Gm{A B:Prop}(k:HsB B→A:=by intro b;exact JK (h:=DE (h:=b.1)))(h:B):A:=k ⟨h⟩
theorem dV{A B:Prop}(k:HsB B→A:=by intro b;exact ES (h:=m_ (h:=b.1)))(h:B):A:=k ⟨h⟩
theorem Gp{A B:Prop}(k:HsB B→A:=by intro b;exact dV (h:=D6 (h:=b.1)))(h:B):A:=k ⟨h⟩
theorem Gq{A B:Prop}(k:HsB B→A:=by intro b;exact l_ (h:=m_ (h:=b.1)))(h:B):A:=k ⟨h⟩
theorem Gr{A B:Prop}(k:HsB B→A:=by intro b;exact Sz (h:=s_ (h:=b.1)))(h:B):A:=k ⟨h⟩
theorem Gs{A B:Prop}(k:HsB B→A:=by intro b;exact BD (h:=Ch (h:=b.1)))(h:B):A:=k ⟨h⟩
theorem HL{A B:Prop}(k:HsB B→A:=by intro b;exact Fs (h:=BJ (h:=b.1)))(h:B):A:=k ⟨h⟩
theorem HQ{A B:Prop}(k:HsB B→A:=by intro b;exact n_ (h:=E6 (h:=b.1)))(h:B):A:=k ⟨h⟩
theorem HU{A B:Prop}(k:HsB B→A:=by intro b;exact Bl (h:=EB (h:=b.1)))(h:B):A:=k ⟨h⟩
theorem Ha{A B:Prop}(k:HsB B→A:=by intro b;exact n_ (h:=m_ (h:=b.1)))(h:B):A:=k ⟨h⟩
theorem Hb{A B:Prop}(k:HsB B→A:=by intro b;exact o_ (h:=z_ (h:=b.1)))(h:B):A:=k ⟨h⟩
theorem Hc{A B:Prop}(k:HsB B→A:=by intro b;exact CG (h:=m_ (h:=b.1)))(h:B):A:=k ⟨h⟩
theorem Hd{A B:Prop}(k:HsB B→A:=by intro b;exact k_ (h:=f_ (h:=b.1)))(h:B):A:=k ⟨h⟩
theorem T3{A B:Prop}(k:HsB B→A:=by intro b;exact BB (Vz (h:=b.1)))(h:B):A:=k ⟨h⟩
theorem Hs{A B:Prop}(k:HsB B→A:=by intro b;exact Az (h:=Ab (h:=b.1)))(h:B):A:=k ⟨h⟩
theorem Ht{A B:Prop}(k:HsB B→A:=by intro b;exact n_ (h:=Cj (h:=b.1)))(h:B):A:=k ⟨h⟩
theorem Hu{A B:Prop}(k:HsB B→A:=by intro b;exact l_ (h:=Dk (h:=b.1)))(h:B):A:=k ⟨h⟩
theorem Hv{A B:Prop}(k:HsB B→A:=by intro b;exact DC (h:=BJ (h:=b.1)))(h:B):A:=k ⟨h⟩
theorem Hw{A B:Prop}(k:HsB B→A:=by intro b;exact BD (h:=Bp (h:=b.1)))(h:B):A:=k ⟨h⟩
theorem Eh{A B:Prop}(k:HsB B→A:=by intro b;exact w_ (C4 (h:=b.1)))(h:B):A:=k ⟨h⟩
theorem Er{A B:Prop}(k:HsB B→A:=by intro b;exact BF (T3 (h:=b.1)))(h:B):A:=k ⟨h⟩
theorem JL{A B:Prop}(k:HsB B→A:=by intro b;exact Ab (h:=E6 (h:=b.1)))(h:B):A:=k ⟨h⟩
theorem JM{A B:Prop}(k:HsB B→A:=by intro b;exact D5 (h:=m_ (h:=b.1)))(h:B):A:=k ⟨h⟩
theorem JN{A B:Prop}(k:HsB B→A:=by intro b;exact Hr (h:=D6 (h:=b.1)))(h:B):A:=k ⟨h⟩
theorem JO{A B:Prop}(k:HsB B→A:=by intro b;exact Ab (h:=Ab (h:=b.1)))(h:B):A:=k ⟨h⟩
theorem FG{A B:Prop}(k:HsB B→A:=by intro b;exact w_ (dT (h:=b.1)))(h:B):A:=k ⟨h⟩
theorem Jb{A B:Prop}(k:HsB B→A:=by intro b;exact Dh (h:=Ja (h:=b.1)))(h:B):A:=k ⟨h⟩
theorem Jc{A B:Prop}(k:HsB B→A:=by intro b;exact LV (h:=Dg (h:=b.1)))(h:B):A:=k ⟨h⟩
theorem Jd{A B:Prop}(k:HsB B→A:=by intro b;exact m_ (h:=m_ (h:=b.1)))(h:B):A:=k ⟨h⟩
theorem Je{A B:Prop}(k:HsB B→A:=by intro b;exact Bj (h:=D6 (h:=b.1)))(h:B):A:=k ⟨h⟩
theorem CR{P:Program}{T z:Nat}{a:Bool}(h:N6 P T=some (z,a):=by kernel_rfl):Typ P T z a:=⟨h⟩
instance :Typ prog 3 1 false:=CR
instance :Typ prog 4 1 false:=CR
instance :Zer prog 4 [.v (.bool false)]:=⟨[.bool false],by kernel_rfl,rfl,rfl⟩
instance :Typ prog 9 1 false:=CR
instance :Typ prog 22 1 false:=CR
instance :Elm prog 22 3 1 8:=⟨by kernel_rfl,by decide⟩
instance :Typ prog 26 2 true:=CR
instance :Zer prog 26 [.v (.int .i64 0), .v (.int .i64 0)]:=⟨[.int .i64 0, .int .i64 0],by kernel_rfl,rfl,rfl⟩
theorem EL{P:Program}{T:Nat}{l:List (Nat×Nat)}(h:QH P T=some l:=by kernel_rfl):Plc P T l:=⟨h⟩
instance :Plc prog 26 [(0,1),(1,1)]:=EL
theorem B2{P:Program}{T i o z:Nat}(h:QF P T i=some (o,z):=by kernel_rfl):Fld P T i o z:=⟨h⟩
instance :Fld prog 26 0 0 1:=B2
instance :Fld prog 26 1 1 1:=B2
instance :Typ prog 27 1 false:=CR
instance :Elm prog 27 291 4 32:=⟨by kernel_rfl,by decide⟩
instance :Typ prog 29 14 true:=CR
instance :Zer prog 29 [.v (.int .i64 0), .v (.int .i64 0), .v (.int .i64 0), .v (.int .i64 0), .v (.int .i64 0), .v (.int .i64 0), .v (.int .i64 0), .v (.int .i64 0), .v (.int .i64 0), .v (.int .i64 0), .v (.string ⟨#[]⟩), .v (.string ⟨#[]⟩), .v (.slice none 0 0), .v (.bool false)]:=⟨[.int .i64 0, .int .i64 0, .int .i64 0, .int .i64 0, .int .i64 0, .int .i64 0, .int .i64 0, .int .i64 0, .int .i64 0, .int .i64 0, .string ⟨#[]⟩, .string ⟨#[]⟩, .slice none 0 0, .bool false],by kernel_rfl,rfl,rfl⟩
instance :Plc prog 29 [(0,1),(1,1),(2,1),(3,1),(4,1),(5,1),(6,1),(7,1),(8,2),(10,1),(11,1),(12,1),(13,1)]:=EL
instance :Fld prog 29 0 0 1:=B2
instance :Fld prog 29 1 1 1:=B2
instance :Fld prog 29 2 2 1:=B2
instance :Fld prog 29 3 3 1:=B2
instance :Fld prog 29 4 4 1:=B2
instance :Fld prog 29 5 5 1:=B2
instance :Fld prog 29 6 6 1:=B2
instance :Fld prog 29 7 7 1:=B2
instance :Fld prog 29 8 8 2:=B2
instance :Fld prog 29 9 10 1:=B2
instance :Fld prog 29 10 11 1:=B2
instance :Fld prog 29 11 12 1:=B2
instance :Fld prog 29 12 13 1:=B2
instance :Typ prog 30 4 true:=CR
instance :Zer prog 30 [.v (.int .i64 0), .v (.int .i64 0), .v (.int .i64 0), .v (.int .i64 0)]:=⟨[.int .i64 0, .int .i64 0, .int .i64 0, .int .i64 0],by kernel_rfl,rfl,rfl⟩
instance :Plc prog 30 [(0,1),(1,1),(2,1),(3,1)]:=EL
instance :Typ prog 31 1 false:=CR
instance :Elm prog 31 9 1 16:=⟨by kernel_rfl,by decide⟩
instance :Typ prog 33 7 true:=CR
instance :Zer prog 33 [.v (.int .i64 0), .v (.int .i64 0), .v (.int .i64 0), .v (.int .i64 0), .v (.int .i64 0), .v (.slice none 0 0), .v (.slice none 0 0)]:=⟨[.int .i64 0, .int .i64 0, .int .i64 0, .int .i64 0, .int .i64 0, .slice none 0 0, .slice none 0 0],by kernel_rfl,rfl,rfl⟩
instance :Plc prog 33 [(0,1),(1,4),(5,1),(6,1)]:=EL
instance :Fld prog 33 0 0 1:=B2
instance :Fld prog 33 1 1 4:=B2
instance :Fld prog 33 2 5 1:=B2
instance :Fld prog 33 3 6 1:=B2
instance :Typ prog 34 1 false:=CR
instance :Elm prog 34 121 13 128:=⟨by kernel_rfl,by decide⟩
instance :Typ prog 36 25 true:=CR
instance :Zer prog 36 [.v (.int .i64 0), .v (.int .i64 0), .v (.int .i64 0), .v (.int .i64 0), .v (.int .i64 0), .v (.int .i64 0), .v (.int .i64 0), .v (.int .i64 0), .v (.int .i64 0), .v (.int .i64 0), .v (.int .i64 0), .v (.string ⟨#[]⟩), .v (.string ⟨#[]⟩), .v (.slice none 0 0), .v (.bool false), .v (.int .i64 0), .v (.int .i64 0), .v (.int .i64 0), .v (.int .i64 0), .v (.int .i64 0), .v (.slice none 0 0), .v (.slice none 0 0), .v (.int .i64 0), .v (.slice none 0 0), .v (.int .i64 0)]:=⟨[.int .i64 0, .int .i64 0, .int .i64 0, .int .i64 0, .int .i64 0, .int .i64 0, .int .i64 0, .int .i64 0, .int .i64 0, .int .i64 0, .int .i64 0, .string ⟨#[]⟩, .string ⟨#[]⟩, .slice none 0 0, .bool false, .int .i64 0, .int .i64 0, .int .i64 0, .int .i64 0, .int .i64 0, .slice none 0 0, .slice none 0 0, .int .i64 0, .slice none 0 0, .int .i64 0],by kernel_rfl,rfl,rfl⟩
instance :Plc prog 36 [(0,1),(1,14),(15,7),(22,1),(23,1),(24,1)]:=EL
instance :Fld prog 36 0 0 1:=B2
instance :Fld prog 36 1 1 14:=B2
instance :Fld prog 36 2 15 7:=B2
instance :Fld prog 36 3 22 1:=B2
instance :Fld prog 36 4 23 1:=B2
instance :Fld prog 36 5 24 1:=B2
instance :Typ prog 37 1 false:=CR
instance :Elm prog 37 148 2 32:=⟨by kernel_rfl,by decide⟩
instance :Typ prog 39 1 true:=CR
instance :Zer prog 39 [.v (.slice none 0 0)]:=⟨[.slice none 0 0],by kernel_rfl,rfl,rfl⟩
instance :Plc prog 39 [(0,1)]:=EL
instance :Fld prog 39 0 0 1:=B2
instance :Typ prog 40 1 false:=CR
instance :Elm prog 40 185 3 24:=⟨by kernel_rfl,by decide⟩
instance :Typ prog 42 2 true:=CR
instance :Zer prog 42 [.v (.slice none 0 0), .v (.slice none 0 0)]:=⟨[.slice none 0 0, .slice none 0 0],by kernel_rfl,rfl,rfl⟩
instance :Plc prog 42 [(0,1),(1,1)]:=EL
instance :Fld prog 42 0 0 1:=B2
instance :Fld prog 42 1 1 1:=B2
instance :Typ prog 43 1 false:=CR
instance :Elm prog 43 29 14 144:=⟨by kernel_rfl,by decide⟩
instance :Typ prog 45 3 true:=CR
instance :Zer prog 45 [.v (.int .i64 0), .v (.int .i64 0), .v (.slice none 0 0)]:=⟨[.int .i64 0, .int .i64 0, .slice none 0 0],by kernel_rfl,rfl,rfl⟩
instance :Plc prog 45 [(0,1),(1,1),(2,1)]:=EL
instance :Fld prog 45 0 0 1:=B2
instance :Fld prog 45 1 1 1:=B2
instance :Fld prog 45 2 2 1:=B2
instance :Typ prog 47 5 true:=CR
instance :Zer prog 47 [.v (.slice none 0 0), .v (.slice none 0 0), .v (.int .i64 0), .v (.int .i64 0), .v (.slice none 0 0)]:=⟨[.slice none 0 0, .slice none 0 0, .int .i64 0, .int .i64 0, .slice none 0 0],by kernel_rfl,rfl,rfl⟩
instance :Plc prog 47 [(0,2),(2,3)]:=EL
instance :Fld prog 47 0 0 2:=B2
instance :Fld prog 47 1 2 3:=B2
instance :Typ prog 48 1 false:=CR
instance :Elm prog 48 248 7 64:=⟨by kernel_rfl,by decide⟩
instance :Typ prog 50 5 true:=CR
instance :Zer prog 50 [.v (.int .i64 0), .v (.int .i64 0), .v (.int .i64 0), .v (.slice none 0 0), .v (.slice none 0 0)]:=⟨[.int .i64 0, .int .i64 0, .int .i64 0, .slice none 0 0, .slice none 0 0],by kernel_rfl,rfl,rfl⟩
instance :Plc prog 50 [(0,1),(1,1),(2,1),(3,1),(4,1)]:=EL
instance :Fld prog 50 0 0 1:=B2
instance :Fld prog 50 1 1 1:=B2
instance :Fld prog 50 2 2 1:=B2
instance :Fld prog 50 3 3 1:=B2
instance :Fld prog 50 4 4 1:=B2
instance :Typ prog 54 1 false:=CR
instance :Elm prog 54 83 8 96:=⟨by kernel_rfl,by decide⟩
instance :Typ prog 57 1 false:=CR
instance :Elm prog 57 4 1 1:=⟨by kernel_rfl,by decide⟩
instance :Typ prog 61 1 false:=CR
instance :Elm prog 61 93 6 56:=⟨by kernel_rfl,by decide⟩
instance :Typ prog 63 2 true:=CR
instance :Zer prog 63 [.v (.slice none 0 0), .v (.slice none 0 0)]:=⟨[.slice none 0 0, .slice none 0 0],by kernel_rfl,rfl,rfl⟩
instance :Plc prog 63 [(0,1),(1,1)]:=EL
instance :Fld prog 63 0 0 1:=B2
instance :Fld prog 63 1 1 1:=B2
instance :Typ prog 67 3 true:=CR
instance :Zer prog 67 [.v (.bool false), .v (.int .i64 0), .v (.string ⟨#[]⟩)]:=⟨[.bool false, .int .i64 0, .string ⟨#[]⟩],by kernel_rfl,rfl,rfl⟩
instance :Plc prog 67 [(0,1),(1,1),(2,1)]:=EL
instance :Fld prog 67 0 0 1:=B2
instance :Fld prog 67 1 1 1:=B2
instance :Fld prog 67 2 2 1:=B2
instance :Typ prog 80 1 false:=CR
instance :Typ prog 81 1 false:=CR
instance :Elm prog 81 115 5 48:=⟨by kernel_rfl,by decide⟩
instance :Typ prog 83 8 true:=CR
instance :Zer prog 83 [.v (.int .i64 0), .v (.int .i64 0), .v (.int .u64 0), .v (.slice none 0 0), .v (.int .i64 0), .v (.string ⟨#[]⟩), .v (.int .i64 0), .v (.string ⟨#[]⟩)]:=⟨[.int .i64 0, .int .i64 0, .int .u64 0, .slice none 0 0, .int .i64 0, .string ⟨#[]⟩, .int .i64 0, .string ⟨#[]⟩],by kernel_rfl,rfl,rfl⟩
instance :Plc prog 83 [(0,1),(1,1),(2,1),(3,1),(4,1),(5,1),(6,1),(7,1)]:=EL
instance :Fld prog 83 0 0 1:=B2
instance :Fld prog 83 1 1 1:=B2
instance :Fld prog 83 2 2 1:=B2
instance :Fld prog 83 3 3 1:=B2
instance :Fld prog 83 4 4 1:=B2
instance :Fld prog 83 5 5 1:=B2
instance :Fld prog 83 6 6 1:=B2
instance :Fld prog 83 7 7 1:=B2
instance :Typ prog 93 6 true:=CR
instance :Zer prog 93 [.v (.int .i64 0), .v (.int .i64 0), .v (.int .i64 0), .v (.string ⟨#[]⟩), .v (.int .i64 0), .v (.int .i64 0)]:=⟨[.int .i64 0, .int .i64 0, .int .i64 0, .string ⟨#[]⟩, .int .i64 0, .int .i64 0],by kernel_rfl,rfl,rfl⟩
instance :Plc prog 93 [(0,1),(1,2),(3,1),(4,2)]:=EL
instance :Fld prog 93 0 0 1:=B2
instance :Fld prog 93 1 1 2:=B2
instance :Fld prog 93 2 3 1:=B2
instance :Fld prog 93 3 4 2:=B2
instance :Zer prog 105 [.v (.slice none 0 0), .v (.int .i64 0)]:=⟨[.slice none 0 0, .int .i64 0],by kernel_rfl,rfl,rfl⟩
instance :Plc prog 105 [(0,1),(1,1)]:=EL
instance :Fld prog 105 0 0 1:=B2
instance :Fld prog 105 1 1 1:=B2
instance :Typ prog 115 5 true:=CR
instance :Zer prog 115 [.v (.int .i64 0), .v (.int .i64 0), .v (.int .i64 0), .v (.string ⟨#[]⟩), .v (.int .i64 0)]:=⟨[.int .i64 0, .int .i64 0, .int .i64 0, .string ⟨#[]⟩, .int .i64 0],by kernel_rfl,rfl,rfl⟩
instance :Plc prog 115 [(0,1),(1,1),(2,1),(3,1),(4,1)]:=EL
instance :Fld prog 115 0 0 1:=B2
instance :Fld prog 115 1 1 1:=B2
instance :Fld prog 115 2 2 1:=B2
instance :Fld prog 115 3 3 1:=B2
instance :Fld prog 115 4 4 1:=B2
instance :Typ prog 121 13 true:=CR
instance :Zer prog 121 [.v (.string ⟨#[]⟩), .v (.string ⟨#[]⟩), .v (.int .i64 0), .v (.int .i64 0), .v (.string ⟨#[]⟩), .v (.int .i64 0), .v (.int .i64 0), .v (.int .i64 0), .v (.int .i64 0), .v (.int .i64 0), .v (.int .i64 0), .v (.int .i64 0), .v (.int .i64 0)]:=⟨[.string ⟨#[]⟩, .string ⟨#[]⟩, .int .i64 0, .int .i64 0, .string ⟨#[]⟩, .int .i64 0, .int .i64 0, .int .i64 0, .int .i64 0, .int .i64 0, .int .i64 0, .int .i64 0, .int .i64 0],by kernel_rfl,rfl,rfl⟩
instance :Plc prog 121 [(0,1),(1,1),(2,2),(4,1),(5,2),(7,1),(8,1),(9,1),(10,1),(11,1),(12,1)]:=EL
instance :Fld prog 121 2 2 2:=B2
instance :Fld prog 121 3 4 1:=B2
instance :Fld prog 121 4 5 2:=B2
instance :Fld prog 121 5 7 1:=B2
instance :Fld prog 121 6 8 1:=B2
instance :Fld prog 121 7 9 1:=B2
instance :Fld prog 121 8 10 1:=B2
instance :Fld prog 121 9 11 1:=B2
instance :Fld prog 121 10 12 1:=B2
instance :Typ prog 125 1 false:=CR
instance :Typ prog 146 1 false:=CR
instance :Elm prog 146 151 8 88:=⟨by kernel_rfl,by decide⟩
instance :Typ prog 148 2 true:=CR
instance :Zer prog 148 [.v (.int .i64 0), .v (.slice none 0 0)]:=⟨[.int .i64 0, .slice none 0 0],by kernel_rfl,rfl,rfl⟩
instance :Plc prog 148 [(0,1),(1,1)]:=EL
instance :Fld prog 148 0 0 1:=B2
instance :Fld prog 148 1 1 1:=B2
instance :Typ prog 149 1 false:=CR
instance :Elm prog 149 234 2 24:=⟨by kernel_rfl,by decide⟩
instance :Typ prog 151 8 true:=CR
instance :Zer prog 151 [.v (.int .i64 0), .v (.int .i64 0), .v (.int .i64 0), .v (.int .i64 0), .v (.int .i64 0), .v (.int .i64 0), .v (.string ⟨#[]⟩), .v (.slice none 0 0)]:=⟨[.int .i64 0, .int .i64 0, .int .i64 0, .int .i64 0, .int .i64 0, .int .i64 0, .string ⟨#[]⟩, .slice none 0 0],by kernel_rfl,rfl,rfl⟩
instance :Plc prog 151 [(0,1),(1,1),(2,1),(3,1),(4,1),(5,1),(6,1),(7,1)]:=EL
instance :Fld prog 151 0 0 1:=B2
instance :Fld prog 151 1 1 1:=B2
instance :Fld prog 151 2 2 1:=B2
instance :Fld prog 151 3 3 1:=B2
instance :Fld prog 151 4 4 1:=B2
instance :Fld prog 151 5 5 1:=B2
instance :Fld prog 151 6 6 1:=B2
instance :Fld prog 151 7 7 1:=B2
instance :Typ prog 157 1 false:=CR
instance :Elm prog 157 200 8 72:=⟨by kernel_rfl,by decide⟩
instance :Zer prog 159 [.v (.slice none 0 0), .v (.slice none 0 0), .v (.int .i64 0), .v (.int .i64 0), .v (.slice none 0 0), .v (.int .i64 0), .v (.int .i64 0), .v (.int .i64 0), .v (.int .i64 0), .v (.int .i64 0), .v (.int .i64 0), .v (.int .i64 0), .v (.int .i64 0), .v (.int .i64 0), .v (.int .i64 0), .v (.string ⟨#[]⟩), .v (.string ⟨#[]⟩), .v (.slice none 0 0), .v (.bool false), .v (.int .i64 0), .v (.int .i64 0), .v (.int .i64 0), .v (.int .i64 0), .v (.int .i64 0), .v (.slice none 0 0), .v (.slice none 0 0), .v (.slice none 0 0), .v (.int .i64 0), .v (.int .i64 0), .v (.int .i64 0), .v (.slice none 0 0), .v (.slice none 0 0)]:=⟨[.slice none 0 0, .slice none 0 0, .int .i64 0, .int .i64 0, .slice none 0 0, .int .i64 0, .int .i64 0, .int .i64 0, .int .i64 0, .int .i64 0, .int .i64 0, .int .i64 0, .int .i64 0, .int .i64 0, .int .i64 0, .string ⟨#[]⟩, .string ⟨#[]⟩, .slice none 0 0, .bool false, .int .i64 0, .int .i64 0, .int .i64 0, .int .i64 0, .int .i64 0, .slice none 0 0, .slice none 0 0, .slice none 0 0, .int .i64 0, .int .i64 0, .int .i64 0, .slice none 0 0, .slice none 0 0],by kernel_rfl,rfl,rfl⟩
instance :Plc prog 159 [(0,5),(5,14),(19,7),(26,1),(27,5)]:=EL
instance :Fld prog 159 0 0 5:=B2
instance :Fld prog 159 1 5 14:=B2
instance :Fld prog 159 2 19 7:=B2
instance :Fld prog 159 3 26 1:=B2
instance :Fld prog 159 4 27 5:=B2
instance :Zer prog 176 [.v (.int .i64 0), .v (.int .i64 0), .v (.int .i64 0), .v (.int .i64 0)]:=⟨[.int .i64 0, .int .i64 0, .int .i64 0, .int .i64 0],by kernel_rfl,rfl,rfl⟩
instance :Plc prog 176 [(0,2),(2,2)]:=EL
instance :Typ prog 185 3 true:=CR
instance :Zer prog 185 [.v (.int .i64 0), .v (.int .i64 0), .v (.int .i64 0)]:=⟨[.int .i64 0, .int .i64 0, .int .i64 0],by kernel_rfl,rfl,rfl⟩
instance :Plc prog 185 [(0,1),(1,2)]:=EL
instance :Fld prog 185 0 0 1:=B2
instance :Fld prog 185 1 1 2:=B2
instance :Typ prog 196 5 true:=CR
instance :Zer prog 196 [.v (.string ⟨#[]⟩), .v (.int .i64 0), .v (.int .i64 0), .v (.int .i64 0), .v (.int .i64 0)]:=⟨[.string ⟨#[]⟩, .int .i64 0, .int .i64 0, .int .i64 0, .int .i64 0],by kernel_rfl,rfl,rfl⟩
instance :Plc prog 196 [(0,1),(1,1),(2,1),(3,1),(4,1)]:=EL
instance :Fld prog 196 0 0 1:=B2
instance :Fld prog 196 1 1 1:=B2
instance :Fld prog 196 2 2 1:=B2
instance :Fld prog 196 3 3 1:=B2
instance :Fld prog 196 4 4 1:=B2
instance :Typ prog 200 8 true:=CR
instance :Zer prog 200 [.v (.int .i64 0), .v (.int .i64 0), .v (.string ⟨#[]⟩), .v (.int .i64 0), .v (.int .i64 0), .v (.bool false), .v (.bool false), .v (.string ⟨#[]⟩)]:=⟨[.int .i64 0, .int .i64 0, .string ⟨#[]⟩, .int .i64 0, .int .i64 0, .bool false, .bool false, .string ⟨#[]⟩],by kernel_rfl,rfl,rfl⟩
instance :Plc prog 200 [(0,2),(2,1),(3,2),(5,1),(6,1),(7,1)]:=EL
instance :Fld prog 200 0 0 2:=B2
instance :Fld prog 200 1 2 1:=B2
instance :Fld prog 200 2 3 2:=B2
instance :Fld prog 200 3 5 1:=B2
instance :Fld prog 200 4 6 1:=B2
instance :Fld prog 200 5 7 1:=B2
instance :Typ prog 234 2 true:=CR
instance :Zer prog 234 [.v (.string ⟨#[]⟩), .v (.int .i64 0)]:=⟨[.string ⟨#[]⟩, .int .i64 0],by kernel_rfl,rfl,rfl⟩
instance :Plc prog 234 [(0,1),(1,1)]:=EL
instance :Fld prog 234 0 0 1:=B2
instance :Fld prog 234 1 1 1:=B2
instance :Elm prog 236 196 5 48:=⟨by kernel_rfl,by decide⟩
instance :Zer prog 248 [.v (.int .i64 0), .v (.int .i64 0), .v (.string ⟨#[]⟩), .v (.int .i64 0), .v (.int .i64 0), .v (.int .i64 0), .v (.int .i64 0)]:=⟨[.int .i64 0, .int .i64 0, .string ⟨#[]⟩, .int .i64 0, .int .i64 0, .int .i64 0, .int .i64 0],by kernel_rfl,rfl,rfl⟩
instance :Plc prog 248 [(0,2),(2,1),(3,2),(5,2)]:=EL
instance :Fld prog 248 3 5 2:=B2
instance :Elm prog 274 125 1 8:=⟨by kernel_rfl,by decide⟩
instance :Typ prog 291 4 true:=CR
instance :Zer prog 291 [.v (.int .i64 0), .v (.int .i64 0), .v (.int .i64 0), .v (.int .i64 0)]:=⟨[.int .i64 0, .int .i64 0, .int .i64 0, .int .i64 0],by kernel_rfl,rfl,rfl⟩
instance :Plc prog 291 [(0,1),(1,2),(3,1)]:=EL
instance :Fld prog 291 0 0 1:=B2
instance :Fld prog 291 1 1 2:=B2
theorem AN{P:Program}{f:Nat}(h:Qj P f=true:=by kernel_rfl):Fun P f:=⟨h⟩
instance :Fun prog 12:=AN
instance :Fun prog 14:=AN
instance :Fun prog 16:=AN
instance :Fun prog 20:=AN
instance :Fun prog 21:=AN
instance :Fun prog 22:=AN
instance :Fun prog 24:=AN
instance :Fun prog 26:=AN
instance :Fun prog 32:=AN
instance :Fun prog 34:=AN
instance :Fun prog 40:=AN
instance :Fun prog 41:=AN
instance :Fun prog 43:=AN
instance :Fun prog 44:=AN
instance :Fun prog 47:=AN
instance :Fun prog 49:=AN
instance :Fun prog 50:=AN
instance :Fun prog 51:=AN
instance :Fun prog 52:=AN
instance :Fun prog 53:=AN
instance :Fun prog 54:=AN
instance :Fun prog 56:=AN
instance :Fun prog 57:=AN
instance :Fun prog 60:=AN
instance :Fun prog 61:=AN
instance :Fun prog 62:=AN
instance :Fun prog 63:=AN
instance :Fun prog 64:=AN
instance :Fun prog 67:=AN
instance :Fun prog 70:=AN
instance :Fun prog 71:=AN
instance :Fun prog 72:=AN
instance :Fun prog 73:=AN
instance :Fun prog 76:=AN
instance :Fun prog 78:=AN
instance :Fun prog 81:=AN
instance :Fun prog 82:=AN
instance :Fun prog 83:=AN
instance :Fun prog 84:=AN
instance :Fun prog 85:=AN
instance :Fun prog 86:=AN
instance :Fun prog 87:=AN
instance :Fun prog 88:=AN
instance :Fun prog 89:=AN
instance :Fun prog 90:=AN
instance :Fun prog 91:=AN
instance :Fun prog 93:=AN
instance :Fun prog 94:=AN
instance :Fun prog 95:=AN
instance :Fun prog 96:=AN
instance :Fun prog 97:=AN
instance :Fun prog 98:=AN
instance :Fun prog 99:=AN
instance :Fun prog 100:=AN
instance :Fun prog 101:=AN
instance :Fun prog 102:=AN
instance :Fun prog 103:=AN
instance :Fun prog 104:=AN
instance :Fun prog 105:=AN
instance :Fun prog 107:=AN
instance :Fun prog 109:=AN
instance :Fun prog 110:=AN
instance :Fun prog 111:=AN
instance :Fun prog 112:=AN
instance :Fun prog 113:=AN
instance :Fun prog 116:=AN
instance :Fun prog 118:=AN
instance :Fun prog 119:=AN
instance :Fun prog 120:=AN
instance :Fun prog 123:=AN
instance :Fun prog 124:=AN
instance :Fun prog 125:=AN
instance :Fun prog 126:=AN
instance :Fun prog 127:=AN
instance :Fun prog 129:=AN
instance :Fun prog 130:=AN
instance :Fun prog 131:=AN
instance :Fun prog 132:=AN
instance :Fun prog 133:=AN
instance :Fun prog 134:=AN
instance :Fun prog 135:=AN
instance :Fun prog 136:=AN
instance :Fun prog 137:=AN
instance :Fun prog 138:=AN
instance :Fun prog 139:=AN
instance :Fun prog 140:=AN
instance :Fun prog 141:=AN
instance :Fun prog 142:=AN
instance :Fun prog 143:=AN
instance :Fun prog 144:=AN
instance :Fun prog 145:=AN
instance :Fun prog 146:=AN
instance :Fun prog 147:=AN
instance :Fun prog 148:=AN
instance :Fun prog 149:=AN
instance :Fun prog 150:=AN
instance :Fun prog 151:=AN
instance :Fun prog 152:=AN
instance :Fun prog 153:=AN
instance :Fun prog 154:=AN
instance :Fun prog 155:=AN
instance :Fun prog 156:=AN
instance :Fun prog 157:=AN
instance :Fun prog 158:=AN
instance :Fun prog 159:=AN
instance :Fun prog 160:=AN
instance :Fun prog 161:=AN
instance :Fun prog 166:=AN
instance :Fun prog 167:=AN
instance :Fun prog 168:=AN
instance :Fun prog 169:=AN
instance :Fun prog 172:=AN
instance :Fun prog 173:=AN
instance :Fun prog 174:=AN
instance :Fun prog 175:=AN
instance :Fun prog 176:=AN
instance :Fun prog 177:=AN
instance :Fun prog 179:=AN
instance :Fun prog 180:=AN
instance :Fun prog 181:=AN
instance :Fun prog 182:=AN
instance :Fun prog 183:=AN
instance :Fun prog 185:=AN
instance :Fun prog 187:=AN
instance :Fun prog 188:=AN
instance :Fun prog 189:=AN
instance :Fun prog 190:=AN
instance :Fun prog 191:=AN
instance :Fun prog 192:=AN
instance :Fun prog 193:=AN
instance :Fun prog 194:=AN
instance :Fun prog 195:=AN
instance :Fun prog 196:=AN
instance :Fun prog 197:=AN
instance :Fun prog 198:=AN
instance :Fun prog 199:=AN
instance :Fun prog 200:=AN
instance :Fun prog 201:=AN
instance :Fun prog 202:=AN
instance :Fun prog 203:=AN
instance :Fun prog 204:=AN
instance :Fun prog 205:=AN
instance :Fun prog 206:=AN
instance :Fun prog 207:=AN
instance :Fun prog 208:=AN
instance :Fun prog 209:=AN
instance :Fun prog 210:=AN
instance :Fun prog 211:=AN
instance :Fun prog 212:=AN
instance :Fun prog 213:=AN
instance :Fun prog 214:=AN
instance :Fun prog 215:=AN
instance :Fun prog 216:=AN
instance :Fun prog 217:=AN
instance :Fun prog 218:=AN
instance :Fun prog 219:=AN
instance :Fun prog 220:=AN
instance :Fun prog 221:=AN
instance :Fun prog 222:=AN
instance :Fun prog 223:=AN
instance :Fun prog 226:=AN
instance :Fun prog 227:=AN
instance :Fun prog 229:=AN
instance :Fun prog 230:=AN
instance :Fun prog 231:=AN
instance :Fun prog 232:=AN
instance :Fun prog 233:=AN
instance :Fun prog 234:=AN
instance :Fun prog 235:=AN
instance :Fun prog 236:=AN
instance :Fun prog 237:=AN
instance :Fun prog 246:=AN
instance :Fun prog 247:=AN
instance :Fun prog 248:=AN
instance :Fun prog 249:=AN
instance :Fun prog 250:=AN
instance :Fun prog 251:=AN
instance :Fun prog 252:=AN
instance :Fun prog 253:=AN
instance :Fun prog 254:=AN
instance :Fun prog 255:=AN
instance :Fun prog 256:=AN
instance :Fun prog 257:=AN
instance :Fun prog 258:=AN
end Go.Proofs.YtbgnigjfkbmceaaGreatDoor
namespace Go.Proofs.YtbgnigjfkbmceaaGreatDoor
abbrev AE:=ByteArray
abbrev A9:=Int×Int
abbrev BQ:=AE×Int
abbrev Dv:=Int×A9
abbrev Ly:=A9×AE×A9×A9
structure Nod where
 ino:Int
 kind:Int
 mode:Int
 uid:Int
 gid:Int
 parent:Int
 target:AE
 entries:List BQ
structure Dvc where
 next:Int
 nodes:List Nod
abbrev AR:=List Dvc
structure Spc where
 files:AR
 mounts:List Dv
def Nod.zero:Nod:=⟨0,0,0,0,0,0,⟨#[]⟩,[]⟩
def NM{α:Type}(p:α→Bool)(l:List α):Int:=
 match l.findIdx? p with
 |some i=>(i:Int)
 |none=> -1
def Fv{α:Type}(l:List α)(i:Int):Option α:=if i<0 then none else l[i.toNat]?
theorem NN{α:Type}(l:List α)(k:Nat):Fv l (k:Int)=l[k]?:=by
 simp[Fv,show¬((k:Int)<0) by omega]
theorem RD{α:Type}{l:List α}{i:Int}(h:i<0∨(l.length:Int)≤i):Fv l i=none:=by
 unfold Fv;split
 ·rfl
 rw[List.getElem?_eq_none];omega
theorem dW{α:Type}{l:List α}{i:Int}{x:α}(h:Fv l i=some x):0≤i∧i<l.length∧l[i.toNat]?=some x:=by
 unfold Fv at h;split at h
 ·cases h
 have:=(Af.1 h).1;exact⟨by omega,by omega,h⟩
theorem W7{α:Type}{p:α→Bool}{l:List α}{m:Nat}{x:α}(hx:l[m]?=some x)(hp:p x=true)(h:∀j y,j<m→l[j]?=some y→p y=false):l.findIdx? p=some m:=by
 have hl:m<l.length:=(Af.1 hx).1;rw[List.findIdx?_eq_some_iff_getElem];refine⟨hl,by rw[(Af.1 hx).2];exact hp,fun j hj=>?_⟩;have:=h j l[j] hj (B3 _);simp[this]
theorem W8{α:Type}{p:α→Bool}{l:List α}{m:Nat}{x:α}(hx:l[m]?=some x)(hp:p x=true)(h:∀j y,j<m→l[j]?=some y→p y=false):NM p l=m:=by
 unfold NM;rw[W7 hx hp h]
theorem dX{α:Type}{p:α→Bool}{l:List α}(h:∀j y,j<l.length→l[j]?=some y→p y=false):NM p l= -1:=by
 unfold NM;rw[List.findIdx?_eq_none_iff.2];intro x hx;obtain⟨j,hj,rfl⟩:=List.mem_iff_getElem.1 hx;exact h j _ hj (B3 hj)
theorem GP{α:Type}{P:α→Prop}{l:List α}{m:Nat}{x:α}(hx:l[m]?=some x)(h:∀j y,j<m→l[j]?=some y→P y)(hp:P x):∀j y,j<m+1→l[j]?=some y→P y:=by
 intro j y hj hy;by_cases e:j=m
 ·subst e;rw[hx]at hy;cases hy;exact hp
 exact h j y (by omega) hy
def Hy(f:AR)(at_:A9):Int:=
 match Fv f at_.1 with
 |none=> -1
 |some d=>NM (fun n:Nod=>n.ino==at_.2) d.nodes
def C8(f:AR)(at_:A9):Option Nod:=
 match Fv f at_.1 with
 |none=>none
 |some d=>d.nodes.find? (fun n:Nod=>n.ino==at_.2)
theorem W9{α:Type}{p:α→Bool}{l:List α}:(l.findIdx? p).bind (fun i=>l[i]?)=l.find? p:=by
 cases h:l.findIdx? p with
 |none=>
   rw[List.findIdx?_eq_none_iff]at h;simp only[Option.bind_none];exact(List.find?_eq_none.2 (fun x hx=>by simp[h x hx])).symm
 |some i=>
   obtain⟨hi,hp,hf⟩:=List.findIdx?_eq_some_iff_getElem.1 h;simp only[Option.bind_some,B3 hi];exact(List.find?_eq_some_iff_getElem.2 ⟨hp,i,hi,rfl,fun j hj=>by simpa using hf j hj⟩).symm
theorem Lz(f:AR)(at_:A9):(Hy f at_= -1∧C8 f at_=none)∨
    ∃(k i:Nat) (d:Dvc) (n:Nod),at_.1=k∧f[k]?=some d∧d.nodes[i]?=some n∧n.ino=at_.2∧Hy f at_=i∧C8 f at_=some n:=by
 unfold Hy C8
 cases h:Fv f at_.1 with
 |none=>exact .inl ⟨rfl,rfl⟩
 |some d=>
   obtain⟨h0,h1,h2⟩:=dW h;simp only[←W9];unfold NM
   cases hi:d.nodes.findIdx? (fun n:Nod=>n.ino==at_.2)with
   |none=>exact .inl ⟨rfl,rfl⟩
   |some i=>
     obtain⟨hl,hp,_⟩:=List.findIdx?_eq_some_iff_getElem.1 hi;exact .inr ⟨at_.1.toNat,i,d,d.nodes[i],by omega,h2,B3 hl,by simpa using hp,rfl,by simp⟩
theorem RE(a b:AE):(a.toList==b.toList)=decide (a=b):=by
 rw[ByteArray.toList_eq,ByteArray.toList_eq,Bool.eq_iff_iff];simp only[beq_iff_eq,decide_eq_true_eq];constructor
 ·intro h
  cases a with
  |mk a=>
    cases b with
    |mk b=>exact congrArg ByteArray.mk (Array.toList_inj.1 h)
 intro h;rw[h]
def M0(c:UInt8):Bool:= !((c.toNat:Int)==0)&& !((c.toNat:Int)==47)
def Fk(s:AE):Bool:=
 if s.size<1∨12<s.size then false else if(s.toList==[46])=true then false else if(s.toList==[46,46])=true then false else s.data.toList.all M0
def O7(s:AE):Bool:=s.data.toList.all (fun c=> !((c.toNat:Int)==0))&&decide (1≤s.size)&&decide (s.size≤128)
theorem WB{p:UInt8→Bool}{s:AE}(h:∀j (hj:j<s.size),p s[j]=true):s.data.toList.all p=true:=by
 rw[List.all_eq_true];intro c hc;obtain⟨j,hj,rfl⟩:=List.mem_iff_getElem.1 hc;exact h j (by simpa using hj)
theorem T4{p:UInt8→Bool}{s:AE}{j:Nat}(hj:j<s.size)(h:p s[j]=false):s.data.toList.all p=false:=by
 rw[List.all_eq_false];refine⟨s[j],?_,by simp[h]⟩;have:s[j]=s.data.toList[j]'(by simpa using hj):=rfl;rw[this];exact List.getElem_mem _
theorem WC{p:UInt8→Bool}{s:AE}{m:Nat}(hm:m<s.size)(h:∀j (hj:j<s.size),j<m→p s[j]=true)(hp:p s[m]=true):∀j (hj:j<s.size),j<m+1→p s[j]=true:=by
 intro j hj hlt;by_cases e:j=m
 ·subst e;exact hp
 exact h j hj (by omega)
def AU(f:AR)(at_:A9):Bool:=
 match C8 f at_ with
 |none=>false
 |some n=>n.kind==2
def Cc(f:AR)(dir:A9)(name:AE):Int:=
 match C8 f dir with
 |none=>2
 |some n=>if n.kind=2 then(if Fk name then 0 else 22)else 20
def M1(f:AR)(dir:A9):Bool:=
 match C8 f dir with
 |none=>false
 |some n=>decide (12≤n.entries.length)
def Mc(f:AR)(dir:A9):Bool:=
 match C8 f dir with
 |none=>true
 |some n=>decide (n.entries.length=0)
def AK(f:AR)(dir:A9)(name:AE):A9×Int:=
 match C8 f dir with
 |none=>((0,0),2)
 |some n=>if n.kind=2 then
     match n.entries.find? (fun e:BQ=>decide (e.1=name))with
     |none=>((0,0),2)
     |some e=>((dir.1,e.2),0)
   else((0,0),20)
def Hz(n:Nod):Bool:=
 if n.kind<1∨3<n.kind∨n.mode<0∨511<n.mode∨n.uid<0∨4294967295<n.uid∨n.gid<0∨4294967295<n.gid then false
 else if n.kind=3 then O7 n.target else n.target.toList.isEmpty
end Go.Proofs.YtbgnigjfkbmceaaGreatDoor
namespace Go.Proofs.YtbgnigjfkbmceaaGreatDoor
def He(a b:AE):Bool:=Op.bytesLess a.toList b.toList
def Jf(name:AE)(ino:Int):Bool→List BQ→List BQ
 |done,[]=>if done then[]else[(name,ino)]
 |done,e::r=>
   (if !done&& !He e.1 name then[(name,ino)]else[])++((if e.1=name then[]else[e])++Jf name ino (done|| !He e.1 name) r)
def D9(es:List BQ)(name:AE)(ino:Int):List BQ:=Jf name ino (ino==0) es
def DM(ino:Int)(es:List BQ):Nat:=es.countP fun e:BQ=>e.2==ino
def Bt(ino:Int)(ns:List Nod):Nat:=DM ino (ns.flatMap fun n=>n.entries)
def Kd(f:AR)(at_:A9):Nat:=
 match C8 f at_,Fv f at_.1 with
 |some _,some d=>Bt at_.2 d.nodes
 |_,_=>0
theorem T5{ino:Int}{es:List BQ}{k:Nat}{e:BQ}(h:es[k]?=some e):DM ino (es.take (k+1))=DM ino (es.take k)+(if e.2==ino then 1 else 0):=by
 unfold DM;rw[List.take_add_one,h,List.countP_append];simp[List.countP_cons]
theorem dY(ino:Int)(es:List BQ):DM ino es≤es.length:=List.countP_le_length
theorem dZ{ino:Int}{ns:List Nod}{m:Nat}{n:Nod}(h:ns[m]?=some n):Bt ino (ns.take (m+1))=Bt ino (ns.take m)+DM ino n.entries:=by
 unfold Bt DM;rw[List.take_add_one,h,List.flatMap_append,List.countP_append];simp
def DN(ino:Int)(ns:List Nod):List Nod:=ns.filter fun n=>n.ino != ino
def RF:Nod:=⟨1,2,493,0,0,1,⟨#[]⟩,[]⟩
def O8:Dvc:=⟨2,[RF]⟩
def GQ(n:Int):AR×Int:=if n<1∨3<n then([],50)else(List.replicate n.toNat O8,0)
abbrev FH:=AR×List Ly×Int
def GR(n:Nod)(next dirIno:Int):Nod:=⟨next,n.kind,n.mode,n.uid,n.gid,if n.kind=2 then dirIno else 0,n.target,[]⟩
end Go.Proofs.YtbgnigjfkbmceaaGreatDoor
namespace Go.Proofs.YtbgnigjfkbmceaaGreatDoor
open Go.RowKit
theorem Bz{α:Type}(enc:α→List AV){l:List α}{k:Nat}(h:(k:Int)<((l.map enc).length:Int)):k<l.length∧∃x,l[k]?=some x∧(l.map enc)[k]?=some (enc x)∧(l.take (k+1)).map enc=(l.take k).map enc++[enc x]:=by
 have hk:k<l.length:=by simpa using h
 refine⟨hk,l[k],B3 hk,by simp[hk],?_⟩;rw[List.take_succ_eq_append_getElem hk,List.map_append];rfl
theorem CD{α:Type}(enc:α→List AV){l:List α}{k:Nat}(hk:k≤l.length)(h:¬(k:Int)<((l.map enc).length:Int)):k=l.length:=by
 simp at h;omega
theorem vb{a b:Bool}(h:a=b):AV.v (.bool a)=AV.v (.bool b):=by rw[h]
theorem vi{k:IntKind}{a b:Int}(h:a=b):AV.v (.int k a)=AV.v (.int k b):=by rw[h]
def AB(x:A9):List AV:=[.v (.int .i64 x.1), .v (.int .i64 x.2)]
def DO(e:BQ):List AV:=[.v (.string e.1), .v (.int .i64 e.2)]
def Ac(n:Nod):List AV:=[.v (.int .i64 n.ino), .v (.int .i64 n.kind), .v (.int .i64 n.mode), .v (.int .i64 n.uid), .v (.int .i64 n.gid), .v (.int .i64 n.parent), .v (.string n.target), .sl 2 (n.entries.map DO) none]
def Cd(d:Dvc):List AV:=[.v (.int .i64 d.next), .sl 8 (d.nodes.map Ac) none]
def Ao(f:AR):List AV:=[.sl 2 (f.map Cd) none]
structure FlsB(f:AR):Prop where
 few:f.length≤1000
 nodes:∀d∈f,d.nodes.length≤1000
 ents:∀d∈f,∀n∈d.nodes,n.entries.length≤1000
theorem T6{f:AR}{a:A9}{k:Nat}{d:Dvc}(hk:a.1=(k:Int))(hd:f[k]?=some d):Hy f a=NM (fun n:Nod=>n.ino==a.2) d.nodes:=by
 unfold Hy;rw[hk,NN,hd]
def Ah(f:AR)(a:A9):Nod:=(C8 f a).getD Nod.zero
def Dc(f:AR)(a:A9):Bool:=(C8 f a).isSome
theorem Md(f:AR)(a:A9):AU f a=(Dc f a&&decide ((Ah f a).kind=2)):=by
 unfold AU Dc Ah;cases C8 f a<;>simp[SU]
theorem RG{f:AR}(hf:FlsB f)(a:A9):(Ah f a).entries.length≤1000:=by
 rcases Lz f a with⟨-,h⟩|⟨k,i,d,n, -,h1,h2, -, -,h⟩
 ·simp[Ah,h,Nod.zero]
 simp only[Ah,h,Option.getD_some];exact hf.ents d (Ag h1) n (Ag h2)
section
theorem Me(f:AR)(a:A9)(hf:FlsB f):AFn prog 179 [.agg (Ao f), .agg (AB a)] (fun r=>r= .v (.int .i64 (Hy f a))):=by
 refine enter Tryz.func179 rfl rfl rfl rfl rfl 0 rfl ?_;refine FV (h:=Ci (h:=Di (h:=?_)));refine AJ false rfl rfl (fun hb1 hc1=>?_) (fun hb1 hc1=>?_)
 ·refine BT (h:=BD (h:=FE (h:=?_)));refine A6 ?_;exact vi (by unfold Hy;rw[RD (.inl hc1)])
 refine Ab (h:=Ef (h:=EJ (h:=CV (h:=?_))));refine A4 rfl (fun hb2 hc2=>?_) (fun hb2 hc2=>?_)
 ·refine BA (h:=?_);refine A6 ?_;exact vi (by unfold Hy;rw[RD (.inr (by rw[List.length_map]at hc2;exact hc2))])
 obtain⟨k,hk⟩:=Int.eq_ofNat_of_zero_le (show 0≤a.1 by omega);rw[hk]at hc2;obtain⟨-,d,hd,hrow, -⟩:=Bz Cd (l:=f) (k:=k) (by omega);have hdn:=hf.nodes d (Ag hd);refine AG (Hs (h:=?_));refine A3 rfl (DA (n:=k) rfl rfl hk hrow ?_);refine Ab (h:=B7 (h:=CW (h:=?_)));refine BR (fun m s=>∃j:Nat,j≤d.nodes.length∧m=d.nodes.length - j∧(∀i y,i<j→d.nodes[i]?=some y→(y.ino==a.2)=false)∧s=⟨look [(3, .bp 1 0),(5, .sl 8 (d.nodes.map Ac) none),(6, .v (.int .i64 (j:Int)))],⟨[Ao f,AB a],[]⟩⟩) (d.nodes.length) ((wk 2 0)) (⟨0,by omega,rfl,fun i y hi=>by omega,rfl⟩) ?_;rintro m s ⟨j,hj,rfl,ha,rfl⟩;refine Du (h:=Ht (h:=?_));refine A4 rfl (fun hb3 hc3=>?_) (fun hb3 hc3=>?_)
 ·obtain⟨hlt,n,hy,hrow2, -⟩:=Bz Ac hc3;refine AG (q_ (BH (q_ (Db 8 (h:=AF 0 (h:=AF 1 (h:=DK 2 (h:=AD 3 (h:=AA 4 (h:=AD 5 (h:=AA 6 (h:=K7 7 (h:=z_ (h:=t_ (?_)))))))))))))));refine A4 rfl (fun hb4 hc4=>?_) (fun hb4 hc4=>?_)
  ·refine Aa (h:=BC (h:=EB (h:=?_)));refine A6 ?_;exact vi (by rw[T6 hk hd];exact(W8 hy (by simpa using hc4) ha).symm)
  refine DL (h:=?_);refine⟨_,_,?_,⟨j+1,by omega,rfl,GP hy ha (by simpa using hc4),rfl⟩,(wk 2 0)⟩;omega
 have e:=CD Ac hj hc3;subst e;refine GK (h:=?_);refine A6 ?_;exact vi (by rw[T6 hk hd];exact(dX (fun i y hi hy=>ha i y hi hy)).symm)
theorem FZ(f:AR)(a:A9)(hf:FlsB f):AFn prog 123 [.agg (Ao f), .agg (AB a)] (fun r=>r= .tup [.agg (Ac (Ah f a)), .v (.bool (Dc f a))]):=by
 refine enter Tryz.func123 rfl rfl rfl rfl rfl 0 rfl ?_;refine Jb (h:=CG (h:=?_));refine A3 rfl (A8 (Me f a hf) ?_);rintro r rfl;refine Bw (h:=Cj (h:=?_));refine A4 rfl (fun hb1 hc1=>?_) (fun hb1 hc1=>?_)
 ·have e:C8 f a=none:=by
   rcases Lz f a with h|⟨k,i,d,n, -, -, -, -,h, -⟩
   ·exact h.2
   exfalso;omega
  refine Br (h:=?_);refine AZ (r:= .tup [.agg (Ac (Ah f a)), .v (.bool (Dc f a))]) none (h5:=?_) (h6:=⟨rfl,rfl,rfl⟩);rw[show Ah f a=Nod.zero by simp[Ah,e],show Dc f a=false by simp[Dc,e]];exact(by repeat (first|exact A7 _|exact LeA.nil _|exact LeL.refl _|refine LeA.agg ?_|refine LeA.tup ?_|exact LeL.nil|refine LeL.cons ?_ ?_|exact LeA.any _))
 obtain⟨k,i,d,n,g1,g2,g3,g4,g5,g6⟩:=(Lz f a).resolve_left (fun h=>by omega);rw[g5];have hr1:(f.map Cd)[k]?=some (Cd d):=by rw[List.getElem?_map,g2];rfl
 have hr2:(d.nodes.map Ac)[i]?=some (Ac n):=by rw[List.getElem?_map,g3];rfl
 have hen:=hf.ents d (Ag g2) n (Ag g3);refine AG (Hs (h:=?_));refine A3 rfl (DA (n:=k) rfl rfl g1 hr1 ?_);refine Gj (h:=?_);refine A3 rfl (DA (n:=i) rfl rfl rfl hr2 ?_);refine Hu (h:=Az (h:=?_))
 first|refine A3 rfl (Dr rfl rfl rfl (by simp;omega) (by repeat constructor) ?_)|refine A3 rfl (Ge rfl rfl (by simp;omega) (by repeat constructor) ?_)
 refine D7 (h:=HL (h:=?_));refine A6 ?_;rw[show Ah f a=n by simp[Ah,g6],show Dc f a=true by simp[Dc,g6]];rfl
theorem Ke(f:AR)(a:A9)(hf:FlsB f):AFn prog 185 [.agg (Ao f), .agg (AB a)] (fun r=>r= .v (.bool (AU f a))):=by
 refine enter Tryz.func185 rfl rfl rfl rfl rfl 0 rfl ?_;refine FV (h:=CG (h:=?_));refine A3 rfl (A8 (FZ f a hf) ?_);rintro r rfl;refine Ee (h:=C4 (h:=m_ (h:=?_)));refine AJ true rfl rfl (fun hb1 hc1=>?_) (fun hb1 hc1=>?_)
 ·refine Cx (h:=Gk (h:=?_));refine A6 ?_;exact vb (by rw[Md];simp[*])
 refine Hv (h:=?_);refine A6 ?_;exact vb (by rw[Md];simp[*])
end
end Go.Proofs.YtbgnigjfkbmceaaGreatDoor
namespace Go.Proofs.YtbgnigjfkbmceaaGreatDoor
structure Tst where
 fld:Int
 op:Int
 num:Int
 text:AE
 other:Int
structure Rul where
 list:Int
 action:Int
 calls:Int
 tests:List Tst
 watch:Int
 path:AE
 perm:Int
 key:AE
structure Itm where
 given:AE
 path:AE
 dir:A9
 name:AE
 file:A9
 role:Int
 kind:Int
 mode:Int
 uid:Int
 gid:Int
 perm:Int
structure Ctx where
 phase:Int
 pid:Int
 ppid:Int
 uid:Int
 euid:Int
 gid:Int
 egid:Int
 auid:Int
 ses:Int
 cwd:A9
 comm:AE
 exe:AE
 audited:Bool
 number:Int
 a0:Int
 a1:Int
 a2:Int
 a3:Int
 ext:Int
 items:List Itm
 typ:Int
def Itm.zero:Itm:=⟨⟨#[]⟩,⟨#[]⟩,(0,0),⟨#[]⟩,(0,0),0,0,0,0,0,0⟩
def Cs(f:Int):Bool:=decide (1≤f∧f≤8∨f=13∨f=14)
def Es(list f:Int):Bool:=
 if list=1∨list=4 then Cs f
 else if list=2 then decide (1≤f∧f≤14)
 else if list=3 then decide (1≤f∧f≤21)
 else if list=5 then decide (1≤f∧f≤8∨f=13∨f=14∨f=22)
 else false
def Ei(f:Int):Bool:=decide (f=13∨f=14)
def Et(f:Int):Bool:=decide (f=3∨f=4∨f=5∨f=6∨f=7∨f=19∨f=20)
def L7(f:Int):Bool:=decide (17≤f∧f≤21)
def Ba(t:Tst)(list:Int):Int:=
 if Es list t.fld=false∨t.other≠0∧(Es list t.other=false∨Et t.fld=false∨Et t.other=false)then 120
 else if t.op<1∨8<t.op∨2<t.op∧(Ei t.fld=true∨t.other≠0)then 121
 else if t.other≠0∧(t.num≠0∨t.text.size≠0)then 122
 else if Ei t.fld=true∧(t.num≠0∨t.text.size=0∨640<t.text.size)then 122
 else if Ei t.fld=false∧t.text.size≠0 then 122
 else 0
def Dm(f:Int)(c:Ctx)(y:Itm):Int:=
 if f=1 then c.pid else if f=2 then c.ppid else if f=3 then c.uid else if f=4 then c.euid else if f=5 then c.gid else if f=6 then c.egid
 else if f=7 then c.auid else if f=8 then c.ses else if f=9 then c.a0 else if f=10 then c.a1 else if f=11 then c.a2 else if f=12 then c.a3
 else if f=15 then c.ext else if f=16 then(if 0≤c.ext then 1 else 0)else if f=17 then y.file.2 else if f=18 then y.file.1
 else if f=19 then y.uid else if f=20 then y.gid else if f=21 then y.kind else c.typ
def C3(f:Int)(c:Ctx):Bool:=
 if 1≤f∧f≤12 then true else if f=22 then decide (c.typ≠0)else if 15≤f∧f≤21 then decide (c.phase=2)else false
def KA(f:Int)(c:Ctx):Bool:=
 if 15≤f∧f≤21 then decide (c.phase=2)else decide (f≠22∨c.typ≠0)
end Go.Proofs.YtbgnigjfkbmceaaGreatDoor
namespace Go.Proofs.YtbgnigjfkbmceaaGreatDoor
open Go.RowKit
def Cy(t:Tst):List AV:=[.v (.int .i64 t.fld), .v (.int .i64 t.op), .v (.int .i64 t.num), .v (.string t.text), .v (.int .i64 t.other)]
def AP(r:Rul):List AV:=[.v (.int .i64 r.list), .v (.int .i64 r.action), .v (.int .u64 r.calls), .sl 5 (r.tests.map Cy) none, .v (.int .i64 r.watch), .v (.string r.path), .v (.int .i64 r.perm), .v (.string r.key)]
def Fl(y:Itm):List AV:=[.v (.string y.given), .v (.string y.path), .v (.int .i64 y.dir.1), .v (.int .i64 y.dir.2), .v (.string y.name), .v (.int .i64 y.file.1), .v (.int .i64 y.file.2), .v (.int .i64 y.role), .v (.int .i64 y.kind), .v (.int .i64 y.mode), .v (.int .i64 y.uid), .v (.int .i64 y.gid), .v (.int .i64 y.perm)]
structure Cxs where
 os:List (List AV)
 ps:List (List AV)
 rs:List (List AV)
def Fm(c:Ctx)(k:Cxs):List AV:=[.v (.int .i64 c.phase), .v (.int .i64 c.pid), .v (.int .i64 c.ppid), .v (.int .i64 c.uid), .v (.int .i64 c.euid), .v (.int .i64 c.gid), .v (.int .i64 c.egid), .v (.int .i64 c.auid), .v (.int .i64 c.ses), .v (.int .i64 c.cwd.1), .v (.int .i64 c.cwd.2), .v (.string c.comm), .v (.string c.exe), .sl 4 k.os none, .v (.bool c.audited),
 .v (.int .i64 c.number), .v (.int .i64 c.a0), .v (.int .i64 c.a1), .v (.int .i64 c.a2), .v (.int .i64 c.a3), .sl 1 k.ps none, .sl 1 k.rs none, .v (.int .i64 c.ext), .sl 13 (c.items.map Fl) none, .v (.int .i64 c.typ)]
section
theorem JP(f:Int):AFn prog 221 [.v (.int .i64 f)] (fun r=>r= .v (.bool (Ei f))):=by
 refine enter Tryz.func221 rfl rfl rfl rfl rfl 0 rfl ?_;refine Eh (h:=E1 (h:=?_));refine AJ false rfl rfl (fun hb1 hc1=>?_) (fun hb1 hc1=>?_)
 ·refine BD (h:=Gk (h:=?_));refine A6 ?_;exact vb (by unfold Ei;rw[Bool.eq_iff_iff];simp;try omega)
 refine DD (h:=Bp (h:=BJ (h:=?_)));refine A6 ?_;exact vb (by unfold Ei;rw[Bool.eq_iff_iff];simp;try omega)
theorem Mf(f:Int):AFn prog 217 [.v (.int .i64 f)] (fun r=>r= .v (.bool (Ei f))):=by
 refine enter Tryz.func217 rfl rfl rfl rfl rfl 0 rfl ?_;refine Eh (h:=E1 (h:=?_));refine AJ false rfl rfl (fun hb1 hc1=>?_) (fun hb1 hc1=>?_)
 ·refine BD (h:=Gk (h:=?_));refine A6 ?_;exact vb (by unfold Ei;rw[Bool.eq_iff_iff];simp;try omega)
 refine DD (h:=Bp (h:=BJ (h:=?_)));refine A6 ?_;exact vb (by unfold Ei;rw[Bool.eq_iff_iff];simp;try omega)
theorem WD(f:Int):AFn prog 160 [.v (.int .i64 f)] (fun r=>r= .v (.bool (L7 f))):=by
 refine enter Tryz.func160 rfl rfl rfl rfl rfl 0 rfl ?_;refine Eh (h:=EJ (h:=m_ (h:=?_)));refine AJ true rfl rfl (fun hb1 hc1=>?_) (fun hb1 hc1=>?_)
 ·refine m_ (h:=HA (h:=Gk (h:=?_)));refine A6 ?_;exact vb (by unfold L7;rw[Bool.eq_iff_iff];simp;try omega)
 refine Hw (h:=BJ (h:=?_));refine A6 ?_;exact vb (by unfold L7;rw[Bool.eq_iff_iff];simp;try omega)
theorem WE(f:Int):AFn prog 220 [.v (.int .i64 f)] (fun r=>r= .v (.bool (Et f))):=by
 refine enter Tryz.func220 rfl rfl rfl rfl rfl 0 rfl ?_;refine w_ (Bw (h:=e_ (BH (q_ (B1 (h:=?_))))));refine A4 rfl (fun hb1 hc1=>?_) (fun hb1 hc1=>?_)
 ·refine AG (Eg (h:=?_));refine A6 ?_;exact vb (by unfold Et;rw[Bool.eq_iff_iff];simp;try omega)
 refine B1 (h:=?_);refine A4 rfl (fun hb2 hc2=>?_) (fun hb2 hc2=>?_)
 ·refine AG (Eg (h:=?_));refine A6 ?_;exact vb (by unfold Et;rw[Bool.eq_iff_iff];simp;try omega)
 refine B1 (h:=?_);refine A4 rfl (fun hb3 hc3=>?_) (fun hb3 hc3=>?_)
 ·refine AG (Eg (h:=?_));refine A6 ?_;exact vb (by unfold Et;rw[Bool.eq_iff_iff];simp;try omega)
 refine B1 (h:=?_);refine A4 rfl (fun hb4 hc4=>?_) (fun hb4 hc4=>?_)
 ·refine AG (Eg (h:=?_));refine A6 ?_;exact vb (by unfold Et;rw[Bool.eq_iff_iff];simp;try omega)
 refine B1 (h:=?_);refine A4 rfl (fun hb5 hc5=>?_) (fun hb5 hc5=>?_)
 ·refine AG (Eg (h:=?_));refine A6 ?_;exact vb (by unfold Et;rw[Bool.eq_iff_iff];simp;try omega)
 refine B1 (h:=?_);refine A4 rfl (fun hb6 hc6=>?_) (fun hb6 hc6=>?_)
 ·refine AG (Eg (h:=?_));refine A6 ?_;exact vb (by unfold Et;rw[Bool.eq_iff_iff];simp;try omega)
 refine Av (Ed (h:=?_));refine A4 rfl (fun hb7 hc7=>?_) (fun hb7 hc7=>?_)
 ·refine Bl (h:=?_);refine A6 ?_;exact vb (by unfold Et;rw[Bool.eq_iff_iff];simp;try omega)
 refine Er (h:=?_);refine A6 ?_;exact vb (by unfold Et;rw[Bool.eq_iff_iff];simp;try omega)
theorem WF(f:Int):AFn prog 216 [.v (.int .i64 f)] (fun r=>r= .v (.bool (Et f))):=by
 refine enter Tryz.func216 rfl rfl rfl rfl rfl 0 rfl ?_;refine w_ (Bw (h:=e_ (BH (q_ (B1 (h:=?_))))));refine A4 rfl (fun hb1 hc1=>?_) (fun hb1 hc1=>?_)
 ·refine AG (Eg (h:=?_));refine A6 ?_;exact vb (by unfold Et;rw[Bool.eq_iff_iff];simp;try omega)
 refine B1 (h:=?_);refine A4 rfl (fun hb2 hc2=>?_) (fun hb2 hc2=>?_)
 ·refine AG (Eg (h:=?_));refine A6 ?_;exact vb (by unfold Et;rw[Bool.eq_iff_iff];simp;try omega)
 refine B1 (h:=?_);refine A4 rfl (fun hb3 hc3=>?_) (fun hb3 hc3=>?_)
 ·refine AG (Eg (h:=?_));refine A6 ?_;exact vb (by unfold Et;rw[Bool.eq_iff_iff];simp;try omega)
 refine B1 (h:=?_);refine A4 rfl (fun hb4 hc4=>?_) (fun hb4 hc4=>?_)
 ·refine AG (Eg (h:=?_));refine A6 ?_;exact vb (by unfold Et;rw[Bool.eq_iff_iff];simp;try omega)
 refine B1 (h:=?_);refine A4 rfl (fun hb5 hc5=>?_) (fun hb5 hc5=>?_)
 ·refine AG (Eg (h:=?_));refine A6 ?_;exact vb (by unfold Et;rw[Bool.eq_iff_iff];simp;try omega)
 refine B1 (h:=?_);refine A4 rfl (fun hb6 hc6=>?_) (fun hb6 hc6=>?_)
 ·refine AG (Eg (h:=?_));refine A6 ?_;exact vb (by unfold Et;rw[Bool.eq_iff_iff];simp;try omega)
 refine Av (Ed (h:=?_));refine A4 rfl (fun hb7 hc7=>?_) (fun hb7 hc7=>?_)
 ·refine Bl (h:=?_);refine A6 ?_;exact vb (by unfold Et;rw[Bool.eq_iff_iff];simp;try omega)
 refine Er (h:=?_);refine A6 ?_;exact vb (by unfold Et;rw[Bool.eq_iff_iff];simp;try omega)
theorem WG(list f:Int):AFn prog 219 [.v (.int .i64 list), .v (.int .i64 f)] (fun r=>r= .v (.bool (Es list f))):=by
 refine enter Tryz.func219 rfl rfl rfl rfl rfl 0 rfl ?_;refine Cw (h:=?_);refine L3 (⟨look [(0, .v (.int .i64 list)),(1, .v (.int .i64 f)),(5, .v (.bool (Cs f)))],⟨[],[]⟩⟩) ?_ ?_
 ·skip
  refine C5 (h:=EJ (h:=m_ (h:=?_)));refine AJ true rfl rfl (fun hb1 hc1=>?_) (fun hb1 hc1=>?_)
  ·refine m_ (h:=HA (h:=C7 (h:=?_)));refine AJ false rfl rfl (fun hb2 hc2=>?_) (fun hb2 hc2=>?_)
   ·refine BD (h:=C7 (h:=BD (h:=Bj (h:=Ck (h:=?_)))))
    first|(exfalso;first|contradiction|omega)|exact Ai 0 0 rfl rfl rfl rfl (by repeat (first|exact Sub.nil|refine Aj rfl rfl ?_|refine Ap ?_|refine Aq rfl ?_|refine Ar rfl ?_|(apply Sub.of;(focus exact rfl);(focus exact LeA.of_eq (vb (by unfold Cs;rw[Bool.eq_iff_iff];simp;try omega)));(focus exact rfl))))
   refine DD (h:=Bh (h:=?_));refine AJ false rfl rfl (fun hb3 hc3=>?_) (fun hb3 hc3=>?_)
   ·refine BD (h:=Bj (h:=Ck (h:=?_)))
    first|(exfalso;first|contradiction|omega)|exact Ai 0 0 rfl rfl rfl rfl (by repeat (first|exact Sub.nil|refine Aj rfl rfl ?_|refine Ap ?_|refine Aq rfl ?_|refine Ar rfl ?_|(apply Sub.of;(focus exact rfl);(focus exact LeA.of_eq (vb (by unfold Cs;rw[Bool.eq_iff_iff];simp;try omega)));(focus exact rfl))))
   refine DD (h:=Bp (h:=Ck (h:=?_)))
   first|(exfalso;first|contradiction|omega)|exact Ai 0 0 rfl rfl rfl rfl (by repeat (first|exact Sub.nil|refine Aj rfl rfl ?_|refine Ap ?_|refine Aq rfl ?_|refine Ar rfl ?_|(apply Sub.of;(focus exact rfl);(focus exact LeA.of_eq (vb (by unfold Cs;rw[Bool.eq_iff_iff];simp;try omega)));(focus exact rfl))))
  refine BD (h:=Bh (h:=DD (h:=Bh (h:=?_))));refine AJ false rfl rfl (fun hb4 hc4=>?_) (fun hb4 hc4=>?_)
  ·refine BD (h:=Bj (h:=Ck (h:=?_)))
   (exfalso;first|contradiction|omega)
  refine DD (h:=Bp (h:=Ck (h:=?_)))
  first|(exfalso;first|contradiction|omega)|exact Ai 0 0 rfl rfl rfl rfl (by repeat (first|exact Sub.nil|refine Aj rfl rfl ?_|refine Ap ?_|refine Aq rfl ?_|refine Ar rfl ?_|(apply Sub.of;(focus exact rfl);(focus exact LeA.of_eq (vb (by unfold Cs;rw[Bool.eq_iff_iff];simp;try omega)));(focus exact rfl))))
 skip
 refine Bv (h:=e_ (BH (q_ (B1 (h:=?_)))));refine A4 rfl (fun hb5 hc5=>?_) (fun hb5 hc5=>?_)
 ·refine AG (Fr (h:=Aa (h:=BC (h:=?_))));refine A6 ?_
  first|(exfalso;first|contradiction|omega)|(exact vb (by unfold Es;unfold Cs at *;simp only[*];(try rw[Bool.eq_iff_iff]);simp at *;try omega))
 refine Av (Ed (h:=?_));refine A4 rfl (fun hb6 hc6=>?_) (fun hb6 hc6=>?_)
 ·refine Aa (h:=BC (h:=?_));refine A6 ?_
  first|(exfalso;first|contradiction|omega)|(exact vb (by unfold Es;unfold Cs at *;simp only[*];(try rw[Bool.eq_iff_iff]);simp at *;try omega))
 refine B1 (h:=?_);refine A4 rfl (fun hb7 hc7=>?_) (fun hb7 hc7=>?_)
 ·refine Aa (h:=EJ (h:=m_ (h:=?_)));refine AJ true rfl rfl (fun hb8 hc8=>?_) (fun hb8 hc8=>?_)
  ·refine m_ (h:=HA (h:=Bj (h:=BC (h:=?_))));refine A6 ?_
   first|(exfalso;first|contradiction|omega)|(exact vb (by unfold Es;unfold Cs at *;simp only[*];(try rw[Bool.eq_iff_iff]);simp at *;try omega))
  refine Hw (h:=BC (h:=?_));refine A6 ?_
  first|(exfalso;first|contradiction|omega)|(exact vb (by unfold Es;unfold Cs at *;simp only[*];(try rw[Bool.eq_iff_iff]);simp at *;try omega))
 refine B1 (h:=?_);refine A4 rfl (fun hb9 hc9=>?_) (fun hb9 hc9=>?_)
 ·refine Aa (h:=EJ (h:=m_ (h:=?_)));refine AJ true rfl rfl (fun hb10 hc10=>?_) (fun hb10 hc10=>?_)
  ·refine m_ (h:=HA (h:=Bj (h:=BC (h:=?_))));refine A6 ?_
   first|(exfalso;first|contradiction|omega)|(exact vb (by unfold Es;unfold Cs at *;simp only[*];(try rw[Bool.eq_iff_iff]);simp at *;try omega))
  refine Hw (h:=BC (h:=?_));refine A6 ?_
  first|(exfalso;first|contradiction|omega)|(exact vb (by unfold Es;unfold Cs at *;simp only[*];(try rw[Bool.eq_iff_iff]);simp at *;try omega))
 refine B1 (h:=?_);refine A4 rfl (fun hb11 hc11=>?_) (fun hb11 hc11=>?_)
 ·refine E9 (h:=?_);refine AJ false rfl rfl (fun hb12 hc12=>?_) (fun hb12 hc12=>?_)
  ·refine BD (h:=Bj (h:=BC (h:=?_)));refine A6 ?_
   first|(exfalso;first|contradiction|omega)|(exact vb (by unfold Es;unfold Cs at *;simp only[*];(try rw[Bool.eq_iff_iff]);simp at *;try omega))
  refine DD (h:=Bp (h:=BC (h:=?_)));refine A6 ?_
  first|(exfalso;first|contradiction|omega)|(exact vb (by unfold Es;unfold Cs at *;simp only[*];(try rw[Bool.eq_iff_iff]);simp at *;try omega))
 refine Er (h:=?_);refine A6 ?_
 first|(exfalso;first|contradiction|omega)|(exact vb (by unfold Es;unfold Cs at *;simp only[*];(try rw[Bool.eq_iff_iff]);simp at *;try omega))
theorem WH(list f:Int):AFn prog 215 [.v (.int .i64 list), .v (.int .i64 f)] (fun r=>r= .v (.bool (Es list f))):=by
 refine enter Tryz.func215 rfl rfl rfl rfl rfl 0 rfl ?_;refine w_ (Bw (h:=Di (h:=?_)));refine AJ false rfl rfl (fun hb1 hc1=>?_) (fun hb1 hc1=>?_)
 ·refine BD (h:=FE (h:=?_));refine A6 ?_
  first|(exfalso;first|contradiction|omega)|(exact vb (by unfold Es Cs;(repeat' split)<;>(try rw[Bool.eq_iff_iff])<;>(try simp)<;>(first|omega|(unfold Cs at *;simp only[decide_eq_true_eq,decide_eq_false_iff_not]at *;omega)|skip)))
 refine m_ (h:=E6 (h:=CV (h:=?_)));refine A4 rfl (fun hb2 hc2=>?_) (fun hb2 hc2=>?_)
 ·refine BA (h:=?_);refine A6 ?_
  first|(exfalso;first|contradiction|omega)|(exact vb (by unfold Es Cs;(repeat' split)<;>(try rw[Bool.eq_iff_iff])<;>(try simp)<;>(first|omega|(unfold Cs at *;simp only[decide_eq_true_eq,decide_eq_false_iff_not]at *;omega)|skip)))
 refine AG (?_);refine L3 (⟨look [(0, .v (.int .i64 list)),(1, .v (.int .i64 f)),(5, .v (.bool (Cs f)))],⟨[],[]⟩⟩) ?_ ?_
 ·skip
  refine C5 (h:=HA (h:=m_ (h:=?_)));refine AJ false rfl rfl (fun hb3 hc3=>?_) (fun hb3 hc3=>?_)
  ·refine BD (h:=C7 (h:=BD (h:=Bj (h:=Ck (h:=?_)))))
   first|(exfalso;first|contradiction|omega)|exact Ai 0 0 rfl rfl rfl rfl (by repeat (first|exact Sub.nil|refine Aj rfl rfl ?_|refine Ap ?_|refine Aq rfl ?_|refine Ar rfl ?_|(apply Sub.of;(focus exact rfl);(focus exact LeA.of_eq (vb (by unfold Cs;rw[Bool.eq_iff_iff];simp;try omega)));(focus exact rfl))))
  refine DD (h:=Bh (h:=?_));refine AJ false rfl rfl (fun hb4 hc4=>?_) (fun hb4 hc4=>?_)
  ·refine BD (h:=Bj (h:=Ck (h:=?_)))
   first|(exfalso;first|contradiction|omega)|exact Ai 0 0 rfl rfl rfl rfl (by repeat (first|exact Sub.nil|refine Aj rfl rfl ?_|refine Ap ?_|refine Aq rfl ?_|refine Ar rfl ?_|(apply Sub.of;(focus exact rfl);(focus exact LeA.of_eq (vb (by unfold Cs;rw[Bool.eq_iff_iff];simp;try omega)));(focus exact rfl))))
  refine DD (h:=Bp (h:=Ck (h:=?_)))
  first|(exfalso;first|contradiction|omega)|exact Ai 0 0 rfl rfl rfl rfl (by repeat (first|exact Sub.nil|refine Aj rfl rfl ?_|refine Ap ?_|refine Aq rfl ?_|refine Ar rfl ?_|(apply Sub.of;(focus exact rfl);(focus exact LeA.of_eq (vb (by unfold Cs;rw[Bool.eq_iff_iff];simp;try omega)));(focus exact rfl))))
 skip
 refine Bv (h:=e_ (BH (q_ (B1 (h:=?_)))));refine A4 rfl (fun hb5 hc5=>?_) (fun hb5 hc5=>?_)
 ·refine AG (Fr (h:=Aa (h:=BC (h:=?_))));refine A6 ?_
  first|(exfalso;first|contradiction|omega)|(exact vb (by unfold Es Cs;(repeat' split)<;>(try rw[Bool.eq_iff_iff])<;>(try simp)<;>(first|omega|(unfold Cs at *;simp only[decide_eq_true_eq,decide_eq_false_iff_not]at *;omega)|skip)))
 refine Av (Ed (h:=?_));refine A4 rfl (fun hb6 hc6=>?_) (fun hb6 hc6=>?_)
 ·refine Aa (h:=BC (h:=?_));refine A6 ?_
  first|(exfalso;first|contradiction|omega)|(exact vb (by unfold Es Cs;(repeat' split)<;>(try rw[Bool.eq_iff_iff])<;>(try simp)<;>(first|omega|(unfold Cs at *;simp only[decide_eq_true_eq,decide_eq_false_iff_not]at *;omega)|skip)))
 refine B1 (h:=?_);refine A4 rfl (fun hb7 hc7=>?_) (fun hb7 hc7=>?_)
 ·refine Aa (h:=HA (h:=BC (h:=?_)));refine A6 ?_
  first|(exfalso;first|contradiction|omega)|(exact vb (by unfold Es Cs;(repeat' split)<;>(try rw[Bool.eq_iff_iff])<;>(try simp)<;>(first|omega|(unfold Cs at *;simp only[decide_eq_true_eq,decide_eq_false_iff_not]at *;omega)|skip)))
 refine B1 (h:=?_);refine A4 rfl (fun hb8 hc8=>?_) (fun hb8 hc8=>?_)
 ·refine Aa (h:=K8 (h:=BC (h:=?_)));refine A6 ?_
  first|(exfalso;first|contradiction|omega)|(exact vb (by unfold Es Cs;(repeat' split)<;>(try rw[Bool.eq_iff_iff])<;>(try simp)<;>(first|omega|(unfold Cs at *;simp only[decide_eq_true_eq,decide_eq_false_iff_not]at *;omega)|skip)))
 refine B1 (h:=?_);refine A4 rfl (fun hb9 hc9=>?_) (fun hb9 hc9=>?_)
 ·refine E9 (h:=?_);refine AJ false rfl rfl (fun hb10 hc10=>?_) (fun hb10 hc10=>?_)
  ·refine BD (h:=Bj (h:=BC (h:=?_)));refine A6 ?_
   first|(exfalso;first|contradiction|omega)|(exact vb (by unfold Es Cs;(repeat' split)<;>(try rw[Bool.eq_iff_iff])<;>(try simp)<;>(first|omega|(unfold Cs at *;simp only[decide_eq_true_eq,decide_eq_false_iff_not]at *;omega)|skip)))
  refine DD (h:=Bp (h:=BC (h:=?_)));refine A6 ?_
  first|(exfalso;first|contradiction|omega)|(exact vb (by unfold Es Cs;(repeat' split)<;>(try rw[Bool.eq_iff_iff])<;>(try simp)<;>(first|omega|(unfold Cs at *;simp only[decide_eq_true_eq,decide_eq_false_iff_not]at *;omega)|skip)))
 refine Er (h:=?_);refine A6 ?_
 first|(exfalso;first|contradiction|omega)|(exact vb (by unfold Es Cs;(repeat' split)<;>(try rw[Bool.eq_iff_iff])<;>(try simp)<;>(first|omega|(unfold Cs at *;simp only[decide_eq_true_eq,decide_eq_false_iff_not]at *;omega)|skip)))
end
end Go.Proofs.YtbgnigjfkbmceaaGreatDoor
