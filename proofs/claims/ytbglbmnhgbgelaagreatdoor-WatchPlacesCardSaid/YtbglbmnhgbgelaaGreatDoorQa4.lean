/-
  Part 4 of the proof of WatchPlacesP: what the statement's proof uses of the texts in wip/tpl.
-/
import Derived.WalkKit
import Derived.Test.YtbglbmnhgbgelaaGreatDoorQa3
namespace Go.Proofs.YtbglbmnhgbgelaaGreatDoor
open Go.RowKit
section
variable {P:Program}{N:Dim}{Q:Exit→AS→Prop}{s:AS}
def AC(P:Program)(N:Dim)(y:Code)(Q:Exit→AS→Prop)(s:AS):Prop:=AWp P N y Q s
theorem q_{x y:Code}(h:AWp P N x (AThen (AC P N y Q) Q) s):AWp P N (.seq x y) Q s:=by
 intro E a w hr
 refine wp_seq (wp_mono (h E a w hr) ?_)
 rintro e a' w' ⟨s',hq,hr'⟩
 cases e with
 |normal=>exact hq E a' w' hr'
 |exit id=>exact⟨s',hq,hr'⟩
 |goto l=>exact⟨s',hq,hr'⟩
 |ret=>exact⟨s',hq,hr'⟩
 |panic c=>exact⟨s',hq,hr'⟩
 |outgrown=>exact⟨s',hq,hr'⟩
theorem w_{id:Nat}{l:List Oper}{y:Code}(h:AL P N l.toArray (AThen (AC P N y Q) Q) l s):AWp P N (.seq (.region id l.toArray false) y) Q s:=q_ (aw_region h)
theorem t_{y:Code}(h:AWp P N y Q s):AThen (AC P N y Q) Q .normal s:=h
theorem e_{ops:Array Oper}{y:Code}(h:AWp P N y Q s):AL P N ops (AThen (AC P N y Q) Q) [] s:=al_nil h
theorem kt_{y:Code}(h:AWp P N y Q s):AWp P N .skip (AThen (AC P N y Q) Q) s:=aw_skip h
theorem cy_{c:Operand}{x y:Code}{t:Bool}(hc:evs s.sl c=some (.v (.bool t)):=by rfl)(ht:t=true:=by first|rfl|assumption|simp[*])(h:AWp P N x Q s):AWp P N (.cond c x y) Q s:=aw_cy hc ht h
theorem cn_{c:Operand}{x y:Code}{t:Bool}(hc:evs s.sl c=some (.v (.bool t)):=by rfl)(ht:t=false:=by first|rfl|assumption|simp[*])(h:AWp P N y Q s):AWp P N (.cond c x y) Q s:=aw_cn hc ht h
end
section
variable {P:Program}{N:Dim}{Q:Exit→AS→Prop}{ops:Array Oper}{rest:List Oper}{l:List (Nat×AV)}{hh:AH}{op:Op}{ty:TypeId}{pos:String}{af:Array Edge}
theorem g0_{d j:Nat}{want t:Bool}(hd:Nat.blt d N.n=true:=by rfl)(hy:yv ops (look l) j=some (some t):=by rfl)(ht:(t==want)=false:=by first|rfl|exact beq_tf ‹_›|exact beq_ft ‹_›|simp[*])(h:AL P N ops Q rest ⟨look ((d, .v undef)::l),hh⟩):AL P N ops Q (⟨some d,op,ty,pos,af,some (j,want)⟩::rest) ⟨look l,hh⟩:=al_gn hd hy ht h
theorem gu_{d j:Nat}{want:Bool}(hd:Nat.blt d N.n=true:=by rfl)(hy:yv ops (look l) j=some none:=by rfl)(h:AL P N ops Q rest ⟨look ((d, .v undef)::l),hh⟩):AL P N ops Q (⟨some d,op,ty,pos,af,some (j,want)⟩::rest) ⟨look l,hh⟩:=al_gu hd hy h
end
def KB:List (Nat×List AV)→AH→Prop
 |[],_=>True
 |(i,r)::l,h=>h.bx[i]?=some r∧KB l h
def lookB:List (Nat×List AV)→Nat→Option (List AV)
 |[],_=>none
 |(i,r)::l,j=>match Nat.beq i j with
   |true=>some r
   |false=>lookB l j
theorem kb:∀{l:List (Nat×List AV)} {h:AH} {i:Nat} {row:List AV},KB l h→lookB l i=some row→h.bx[i]?=some row
 |[],_,_,_,_,e=>by cases e
 |(j,r)::l,h,i,row,k,e=>by
   unfold lookB at e
   split at e
   ·rename_i hb
    have:=Nat.eq_of_beq_eq_true hb
    subst this
    injection e with e
    subst e
    exact k.1
   exact kb k.2 e
theorem kb_n(h:AH):KB [] h:=trivial
theorem kb_c{l:List (Nat×List AV)}{h:AH}{i:Nat}{r:List AV}(h1:h.bx[i]?=some r)(h2:KB l h):KB ((i,r)::l) h:=⟨h1,h2⟩
def Do(_i:Nat)(B A:Prop):Prop:=B→A
section
variable {P:Program}{N:Dim}{l:List Oper}{Q:Exit→AS→Prop}{S:AH→Prop}{tl fuel:Nat}{listed:Array Bool}{m:List (Nat×AV)}{hh:AH}{op:Op}{ty:TypeId}{pos:String}{af:Array Edge}{gd:Option (Nat×Bool)}
theorem do_r{i d:Nat}{x:AV}(hi:l[i]?=some ⟨some d,op,ty,pos,af,gd⟩)(hst:AStep P ⟨some d,op,ty,pos,af,gd⟩ (evs (look m)) hh (fun x' h'=>x'=x∧h'=hh))(hd:Nat.blt d N.n=true:=by rfl)(htl:(tailX l.toArray tl listed&& !Nat.ble tl i&&Region.free .any l.toArray listed i&&(Region.ready .any l.toArray listed).contains i)=true:=by kernel_rfl)
    (hw:wantedA l.toArray (look m) ⟨some d,op,ty,pos,af,gd⟩=some true:=by first|rfl|exact wan_y rfl rfl (beq_tt ‹_›)|exact wan_y rfl rfl (beq_ff ‹_›)|exact wan_y rfl rfl (by simp[*])):
    Do i (AAny P N l.toArray Q (fun h'=>h'=hh) tl fuel (listed.setIfInBounds i true) ⟨look ((d,x)::m),hh⟩) (AAny P N l.toArray Q (fun h'=>h'=hh) tl (fuel+1) listed ⟨look m,hh⟩):=fun H=>aa_r hi hd htl hw hst H
theorem do_k{K:List (Nat×List AV)}{i d:Nat}{x:AV}(hi:l[i]?=some ⟨some d,op,ty,pos,af,gd⟩)(hst:∀h,KB K h→AStep P ⟨some d,op,ty,pos,af,gd⟩ (evs (look m)) h (fun x' h'=>x'=x∧h'=h))(hd:Nat.blt d N.n=true:=by rfl)(htl:(tailX l.toArray tl listed&& !Nat.ble tl i&&Region.free .any l.toArray listed i&&(Region.ready .any l.toArray listed).contains i)=true:=by kernel_rfl)
    (hw:wantedA l.toArray (look m) ⟨some d,op,ty,pos,af,gd⟩=some true:=by first|rfl|exact wan_y rfl rfl (beq_tt ‹_›)|exact wan_y rfl rfl (beq_ff ‹_›)|exact wan_y rfl rfl (by simp[*])) (hS:KB K hh:=by repeat (first|exact kb_n _|refine kb_c rfl ?_)):
    Do i (AAny P N l.toArray Q (KB K) tl fuel (listed.setIfInBounds i true) ⟨look ((d,x)::m),hh⟩) (AAny P N l.toArray Q (KB K) tl (fuel+1) listed ⟨look m,hh⟩):=fun H=>aa_t hi hd htl hw hst hS H
theorem tk_{K:List (Nat×List AV)}(i:Nat){d:Nat}{x:AV}(hi:l[i]?=some ⟨some d,op,ty,pos,af,gd⟩)(hst:∀h,KB K h→AStep P ⟨some d,op,ty,pos,af,gd⟩ (evs (look m)) h (fun x' h'=>x'=x∧h'=h))(H:AAny P N l.toArray Q (KB K) tl fuel (listed.setIfInBounds i true) ⟨look ((d,x)::m),hh⟩)(hd:Nat.blt d N.n=true:=by rfl)(htl:(tailX l.toArray tl listed&& !Nat.ble tl i&&Region.free .any l.toArray listed i&&(Region.ready .any l.toArray listed).contains i)=true:=by kernel_rfl)
    (hw:wantedA l.toArray (look m) ⟨some d,op,ty,pos,af,gd⟩=some true:=by first|rfl|exact wan_y rfl rfl (beq_tt ‹_›)|exact wan_y rfl rfl (beq_ff ‹_›)|exact wan_y rfl rfl (by simp[*])) (hS:KB K hh:=by repeat (first|exact kb_n _|refine kb_c rfl ?_)):AAny P N l.toArray Q (KB K) tl (fuel+1) listed ⟨look m,hh⟩:=aa_t hi hd htl hw hst hS H
theorem d0_(i:Nat){d:Nat}(hi:l[i]?=some ⟨some d,op,ty,pos,af,gd⟩:=by rfl)(hd:Nat.blt d N.n=true:=by rfl)(htl:(tailX l.toArray tl listed&& !Nat.ble tl i&&Region.free .any l.toArray listed i&&(Region.ready .any l.toArray listed).contains i)=true:=by kernel_rfl)
    (hw:wantedA l.toArray (look m) ⟨some d,op,ty,pos,af,gd⟩=some false:=by first|rfl|exact wan_n rfl rfl (beq_tf ‹_›)|exact wan_n rfl rfl (beq_ft ‹_›)|exact wan_u rfl rfl|exact wan_n rfl rfl (by simp[*]))
    (hS:S hh:=by first|rfl|(repeat (first|exact kb_n _|refine kb_c rfl ?_))) (h:AAny P N l.toArray Q S tl fuel (listed.setIfInBounds i true) ⟨look ((d, .v undef)::m),hh⟩):AAny P N l.toArray Q S tl (fuel+1) listed ⟨look m,hh⟩:=aa_n hi hd htl hw hS h
theorem c_(i:Nat){d:Nat}(hi:l[i]?=some ⟨some d,op,ty,pos,af,gd⟩)(H:AStep P ⟨some d,op,ty,pos,af,gd⟩ (evs (look m)) hh (fun x h'=>(Nat.ble tl i=true∨S h')∧AAny P N l.toArray Q S tl fuel (listed.setIfInBounds i true) ⟨look ((d,x)::m),h'⟩))(hd:Nat.blt d N.n=true:=by rfl)(hr:Region.ready .any l.toArray listed=[i]:=by kernel_rfl)
    (hw:wantedA l.toArray (look m) ⟨some d,op,ty,pos,af,gd⟩=some true:=by first|rfl|exact wan_y rfl rfl (beq_tt ‹_›)|exact wan_y rfl rfl (beq_ff ‹_›)|exact wan_y rfl rfl (by simp[*])):AAny P N l.toArray Q S tl (fuel+1) listed ⟨look m,hh⟩:=aa_c hi hd hr hw H
theorem c0_(i:Nat)(hi:l[i]?=some ⟨none,op,ty,pos,af,gd⟩)(H:AStep P ⟨none,op,ty,pos,af,gd⟩ (evs (look m)) hh (fun _ h'=>(Nat.ble tl i=true∨S h')∧AAny P N l.toArray Q S tl fuel (listed.setIfInBounds i true) ⟨look m,h'⟩))(hr:Region.ready .any l.toArray listed=[i]:=by kernel_rfl)
    (hw:wantedA l.toArray (look m) ⟨none,op,ty,pos,af,gd⟩=some true:=by first|rfl|exact wan_y rfl rfl (beq_tt ‹_›)|exact wan_y rfl rfl (beq_ff ‹_›)|exact wan_y rfl rfl (by simp[*])):AAny P N l.toArray Q S tl (fuel+1) listed ⟨look m,hh⟩:=aa_c0 hi hr hw H
theorem c2_(i j:Nat){di dj:Nat}{op':Op}{ty':TypeId}{pos':String}{af':Array Edge}{gd':Option (Nat×Bool)}(hi:l[i]?=some ⟨some di,op,ty,pos,af,gd⟩)(hj:l[j]?=some ⟨some dj,op',ty',pos',af',gd'⟩)
    (H1:AStep P ⟨some di,op,ty,pos,af,gd⟩ (evs (look m)) hh (fun x h'=>(Nat.ble tl i=true∨S h')∧AAny P N l.toArray Q S tl fuel (listed.setIfInBounds i true) ⟨look ((di,x)::m),h'⟩))
    (H2:AStep P ⟨some dj,op',ty',pos',af',gd'⟩ (evs (look m)) hh (fun x h'=>(Nat.ble tl j=true∨S h')∧AAny P N l.toArray Q S tl fuel (listed.setIfInBounds j true) ⟨look ((dj,x)::m),h'⟩))
    (hdi:Nat.blt di N.n=true:=by rfl) (hdj:Nat.blt dj N.n=true:=by rfl) (hr:Region.ready .any l.toArray listed=[i,j]:=by kernel_rfl)
    (hwi:wantedA l.toArray (look m) ⟨some di,op,ty,pos,af,gd⟩=some true:=by first|rfl|exact wan_y rfl rfl (beq_tt ‹_›)|exact wan_y rfl rfl (beq_ff ‹_›)|exact wan_y rfl rfl (by simp[*]))
    (hwj:wantedA l.toArray (look m) ⟨some dj,op',ty',pos',af',gd'⟩=some true:=by first|rfl|exact wan_y rfl rfl (beq_tt ‹_›)|exact wan_y rfl rfl (beq_ff ‹_›)|exact wan_y rfl rfl (by simp[*])):AAny P N l.toArray Q S tl (fuel+1) listed ⟨look m,hh⟩:=aa_two hr hi hdi hwi hj hdj hwj H1 H2
theorem o_{i:Nat}{A:Prop}{h':AH}(hS:Nat.ble tl i=true∨S h':=by first|exact .inl rfl|exact .inr rfl|exact .inr (by repeat (first|exact kb_n _|refine kb_c rfl ?_)))(h:A):(Nat.ble tl i=true∨S h')∧A:=⟨hS,h⟩
theorem z_(hr:Region.ready .any l.toArray listed=[]:=by kernel_rfl)(h:Q .normal ⟨look m,hh⟩):AAny P N l.toArray Q S tl fuel listed ⟨look m,hh⟩:=aa_done hr h fuel
theorem yr_(tl:Nat){id:Nat}(hm:P.follows .mixedOrders=true:=by kernel_rfl)(h:AAny P N l.toArray Q (fun h'=>h'=hh) tl l.length (Array.replicate l.length false) ⟨look m,hh⟩):AWp P N (.region id l.toArray true) Q ⟨look m,hh⟩:=aw_drawR tl hm h
theorem yk_(K:List (Nat×List AV))(tl:Nat){id:Nat}(hm:P.follows .mixedOrders=true:=by kernel_rfl)(h:AAny P N l.toArray Q (KB K) tl l.length (Array.replicate l.length false) ⟨look m,hh⟩):AWp P N (.region id l.toArray true) Q ⟨look m,hh⟩:=aw_draw _ tl hm h
end
section
variable {P:Program}{rs:List ResultVar}{n:Nat}{R:AV→List (List AV)→List Tok→Prop}{s:AS}{xs:List AV}{r:AV}
theorem rt_(g:Option Nat){tk':List Tok}(h1:ResA P s rs xs:=by repeat (first|exact ResA.nil|(apply ResA.tmp;(focus exact rfl))|(apply ResA.cellN;(focus exact inferInstance);(focus exact rfl);(focus exact rfl);(focus exact rfl))|(apply ResA.cell1;(focus exact inferInstance);(focus exact rfl);(focus exact rfl);(focus exact rfl))))(h2:tokOf s.h.tk g=some tk':=by rfl)(h3:bpLt n 1 (reT g (tupA xs))=true:=by rfl)(h4:bpLtB n 0 (s.h.bx.take n)=true:=by rfl)(h5:LeA (reT g (tupA xs)) r)(h6:R r (s.h.bx.take n) tk'):ABody P rs n R .ret s:=abody_ret g h1 h2 h3 h4 h5 h6
end
theorem m_{A B:Prop}(k:B→A:=by intro b;first|exact al_p rfl (st_move rfl b)|exact g_y (st_move rfl b))(h:B):A:=k h
theorem dm_(i:Nat){A B:Prop}(k:Do i B A:=by first|exact do_r rfl (st_move rfl ⟨rfl,rfl⟩)|exact do_k rfl (fun _ _=>st_move rfl ⟨rfl,rfl⟩))(h:B):A:=k h
theorem a_{A B:Prop}(k:B→A:=by intro b;first|exact al_p rfl (st_assign rfl b)|exact g_y (st_assign rfl b))(h:B):A:=k h
theorem da_(i:Nat){A B:Prop}(k:Do i B A:=by first|exact do_r rfl (st_assign rfl ⟨rfl,rfl⟩)|exact do_k rfl (fun _ _=>st_assign rfl ⟨rfl,rfl⟩))(h:B):A:=k h
theorem f_{A B:Prop}(k:B→A:=by intro b;first|exact al_p rfl (st_fieldB rfl b)|exact al_p rfl (st_fieldF rfl b)|exact g_y (st_fieldB rfl b)|exact g_y (st_fieldF rfl b))(h:B):A:=k h
theorem df_(i:Nat){A B:Prop}(k:Do i B A:=by first|exact do_r rfl (st_fieldB rfl ⟨rfl,rfl⟩)|exact do_r rfl (st_fieldF rfl ⟨rfl,rfl⟩)|exact do_k rfl (fun _ _=>st_fieldB rfl ⟨rfl,rfl⟩)|exact do_k rfl (fun _ _=>st_fieldF rfl ⟨rfl,rfl⟩))(h:B):A:=k h
theorem l_{A B:Prop}(k:B→A:=by intro b;first|exact al_p rfl (st_loadB1 rfl rfl rfl b)|exact al_p rfl (st_loadBW rfl rfl rfl b)|exact al_p rfl (st_loadF1 rfl rfl b)|exact al_p rfl (st_loadFW rfl rfl b)|exact al_p rfl (st_loadBN rfl rfl rfl b)|exact al_p rfl (st_loadFN rfl rfl b)|exact g_y (st_loadB1 rfl rfl rfl b)|exact g_y (st_loadBW rfl rfl rfl b)|exact g_y (st_loadF1 rfl rfl b)|exact g_y (st_loadFW rfl rfl b)|exact g_y (st_loadBN rfl rfl rfl b)|exact g_y (st_loadFN rfl rfl b))(h:B):A:=k h
theorem dl_(i:Nat){A B:Prop}(k:Do i B A:=by first|exact do_r rfl (st_loadB1 rfl rfl rfl ⟨rfl,rfl⟩)|exact do_r rfl (st_loadBW rfl rfl rfl ⟨rfl,rfl⟩)|exact do_r rfl (st_loadF1 rfl rfl ⟨rfl,rfl⟩)|exact do_r rfl (st_loadFW rfl rfl ⟨rfl,rfl⟩)|exact do_r rfl (st_loadBN rfl rfl rfl ⟨rfl,rfl⟩)|exact do_r rfl (st_loadFN rfl rfl ⟨rfl,rfl⟩)|exact do_k rfl (fun _ hS=>st_loadB1 rfl (kb hS rfl) rfl ⟨rfl,rfl⟩)|exact do_k rfl (fun _ hS=>st_loadBW rfl (kb hS rfl) rfl ⟨rfl,rfl⟩)|exact do_k rfl (fun _ _=>st_loadF1 rfl rfl ⟨rfl,rfl⟩)|exact do_k rfl (fun _ _=>st_loadFW rfl rfl ⟨rfl,rfl⟩)|exact do_k rfl (fun _ hS=>st_loadBN rfl (kb hS rfl) rfl ⟨rfl,rfl⟩)|exact do_k rfl (fun _ _=>st_loadFN rfl rfl ⟨rfl,rfl⟩))(h:B):A:=k h
theorem s_{A B:Prop}(k:B→A:=by intro b;exact al_p0 (s_store rfl rfl rfl rfl rfl rfl (by repeat constructor) (by repeat constructor) b))(h:B):A:=k h
theorem b_{A B:Prop}(k:B→A:=by intro b;first|exact al_p rfl (s_boxA rfl rfl (by repeat constructor) b)|exact al_p rfl (s_box rfl rfl (by repeat constructor) b)|exact g_y (s_boxA rfl rfl (by repeat constructor) b)|exact g_y (s_box rfl rfl (by repeat constructor) b))(h:B):A:=k h
theorem al_{A B:Prop}(k:B→A:=by intro b;first|exact al_p rfl (s_alloc (by repeat constructor) b)|exact g_y (s_alloc (by repeat constructor) b))(h:B):A:=k h
theorem n_{A B:Prop}(k:B→A:=by intro b;first|exact al_p rfl (st_len rfl b)|exact al_p rfl (st_lenS (by kernel_rfl) rfl b)|exact al_p rfl (st_len0 rfl b)|exact g_y (st_len rfl b)|exact g_y (st_lenS (by kernel_rfl) rfl b)|exact g_y (st_len0 rfl b))(h:B):A:=k h
theorem dn_(i:Nat){A B:Prop}(k:Do i B A:=by first|exact do_r rfl (st_len rfl ⟨rfl,rfl⟩)|exact do_r rfl (st_lenS (by kernel_rfl) rfl ⟨rfl,rfl⟩)|exact do_r rfl (st_len0 rfl ⟨rfl,rfl⟩)|exact do_k rfl (fun _ _=>st_len rfl ⟨rfl,rfl⟩)|exact do_k rfl (fun _ _=>st_lenS (by kernel_rfl) rfl ⟨rfl,rfl⟩)|exact do_k rfl (fun _ _=>st_len0 rfl ⟨rfl,rfl⟩))(h:B):A:=k h
theorem ap_{A B:Prop}(k:B→A:=by intro b;first|exact al_p rfl (s_append rfl rfl rfl (by simp<;>omega) (by repeat constructor) b)|exact al_p rfl (s_append0 rfl rfl (by simp<;>omega) (by repeat constructor) b)|exact g_y (s_append rfl rfl rfl (by simp<;>omega) (by repeat constructor) b)|exact g_y (s_append0 rfl rfl (by simp<;>omega) (by repeat constructor) b))(h:B):A:=k h
theorem x_{A B:Prop}(k:B→A:=by intro b;first|exact al_p rfl (st_extract rfl rfl b)|exact g_y (st_extract rfl rfl b))(h:B):A:=k h
theorem dx_(i:Nat){A B:Prop}(k:Do i B A:=by first|exact do_r rfl (st_extract rfl rfl ⟨rfl,rfl⟩)|exact do_k rfl (fun _ _=>st_extract rfl rfl ⟨rfl,rfl⟩))(h:B):A:=k h
theorem k_{A B:Prop}(k:B→A:=by intro b;first|exact al_p rfl (st_nilB rfl b)|exact al_p rfl (st_nilF rfl b)|exact g_y (st_nilB rfl b)|exact g_y (st_nilF rfl b))(h:B):A:=k h
theorem dk_(i:Nat){A B:Prop}(k:Do i B A:=by first|exact do_r rfl (st_nilB rfl ⟨rfl,rfl⟩)|exact do_r rfl (st_nilF rfl ⟨rfl,rfl⟩)|exact do_k rfl (fun _ _=>st_nilB rfl ⟨rfl,rfl⟩)|exact do_k rfl (fun _ _=>st_nilF rfl ⟨rfl,rfl⟩))(h:B):A:=k h
theorem bd_{A B:Prop}(k:B→A:=by intro b;first|exact al_p rfl (st_build (by repeat (first|exact FillA.nil _|(apply FillA.cons;(focus exact rfl);(focus exact rfl);(focus exact rfl);(focus exact rfl);(focus exact rfl);(focus (repeat constructor))))) b)|exact g_y (st_build (by repeat (first|exact FillA.nil _|(apply FillA.cons;(focus exact rfl);(focus exact rfl);(focus exact rfl);(focus exact rfl);(focus exact rfl);(focus (repeat constructor))))) b))(h:B):A:=k h
theorem dbd_(i:Nat){A B:Prop}(k:Do i B A:=by first|exact do_r rfl (st_build (by repeat (first|exact FillA.nil _|(apply FillA.cons;(focus exact rfl);(focus exact rfl);(focus exact rfl);(focus exact rfl);(focus exact rfl);(focus (repeat constructor))))) ⟨rfl,rfl⟩)|exact do_k rfl (fun _ _=>st_build (by repeat (first|exact FillA.nil _|(apply FillA.cons;(focus exact rfl);(focus exact rfl);(focus exact rfl);(focus exact rfl);(focus exact rfl);(focus (repeat constructor))))) ⟨rfl,rfl⟩))(h:B):A:=k h
theorem bs_{A B:Prop}(k:B→A:=by intro b;first|exact al_p rfl (st_slit (by repeat (first|exact DenseA.nil _|(apply DenseA.cons;(focus exact rfl);(focus exact rfl);(focus exact rfl);(focus exact rfl))|(apply DenseA.consE;(focus exact rfl);(focus exact rfl);(focus exact rfl)))) rfl rfl rfl rfl b)|exact g_y (st_slit (by repeat (first|exact DenseA.nil _|(apply DenseA.cons;(focus exact rfl);(focus exact rfl);(focus exact rfl);(focus exact rfl))|(apply DenseA.consE;(focus exact rfl);(focus exact rfl);(focus exact rfl)))) rfl rfl rfl rfl b))(h:B):A:=k h
theorem dbs_(i:Nat){A B:Prop}(k:Do i B A:=by first|exact do_r rfl (st_slit (by repeat (first|exact DenseA.nil _|(apply DenseA.cons;(focus exact rfl);(focus exact rfl);(focus exact rfl);(focus exact rfl))|(apply DenseA.consE;(focus exact rfl);(focus exact rfl);(focus exact rfl)))) rfl rfl rfl rfl ⟨rfl,rfl⟩)|exact do_k rfl (fun _ _=>st_slit (by repeat (first|exact DenseA.nil _|(apply DenseA.cons;(focus exact rfl);(focus exact rfl);(focus exact rfl);(focus exact rfl))|(apply DenseA.consE;(focus exact rfl);(focus exact rfl);(focus exact rfl)))) rfl rfl rfl rfl ⟨rfl,rfl⟩))(h:B):A:=k h
theorem pt_{A B:Prop}(k:B→A:=by intro b;first|exact al_p rfl (p_t b)|exact g_y (p_t b))(h:B):A:=k h
theorem dpt_(i:Nat){A B:Prop}(k:Do i B A:=by first|exact do_r rfl (p_t ⟨rfl,rfl⟩)|exact do_k rfl (fun _ _=>p_t ⟨rfl,rfl⟩))(h:B):A:=k h
theorem pf_{A B:Prop}(k:B→A:=by intro b;first|exact al_p rfl (p_f b)|exact g_y (p_f b))(h:B):A:=k h
theorem dpf_(i:Nat){A B:Prop}(k:Do i B A:=by first|exact do_r rfl (p_f ⟨rfl,rfl⟩)|exact do_k rfl (fun _ _=>p_f ⟨rfl,rfl⟩))(h:B):A:=k h
theorem i_{A B:Prop}(k:B→A:=by intro b;first|exact al_p rfl (st_index rfl rfl rfl (by first|assumption|rfl) b)|exact g_y (st_index rfl rfl rfl (by first|assumption|rfl) b))(h:B):A:=k h
theorem di_(i:Nat){A B:Prop}(k:Do i B A:=by first|exact do_r rfl (st_index rfl rfl rfl (by first|assumption|rfl) ⟨rfl,rfl⟩)|exact do_k rfl (fun _ _=>st_index rfl rfl rfl (by first|assumption|rfl) ⟨rfl,rfl⟩))(h:B):A:=k h
theorem ms_{A B:Prop}(k:B→A:=by intro b;first|exact al_p rfl (s_make0 rfl rfl (by omega) (by repeat constructor) b)|exact g_y (s_make0 rfl rfl (by omega) (by repeat constructor) b))(h:B):A:=k h
theorem nt_{A B:Prop}(k:B→A:=by intro b;first|exact al_p rfl (st_not rfl b)|exact g_y (st_not rfl b))(h:B):A:=k h
theorem dnt_(i:Nat){A B:Prop}(k:Do i B A:=by first|exact do_r rfl (st_not rfl ⟨rfl,rfl⟩)|exact do_k rfl (fun _ _=>st_not rfl ⟨rfl,rfl⟩))(h:B):A:=k h
theorem ad_{A B:Prop}(k:B→A:=by intro b;first|exact al_p rfl (st_add64 rfl rfl (by omega) b)|exact al_p rfl (st_addS rfl rfl (by omega) b)|exact al_p rfl (st_add rfl rfl b)|exact g_y (st_add64 rfl rfl (by omega) b)|exact g_y (st_addS rfl rfl (by omega) b)|exact g_y (st_add rfl rfl b))(h:B):A:=k h
theorem sb_{A B:Prop}(k:B→A:=by intro b;first|exact al_p rfl (st_sub64 rfl rfl (by omega) b)|exact al_p rfl (st_sub rfl rfl b)|exact g_y (st_sub64 rfl rfl (by omega) b)|exact g_y (st_sub rfl rfl b))(h:B):A:=k h
theorem dsb_(i:Nat){A B:Prop}(k:Do i B A:=by first|exact do_r rfl (st_sub64 rfl rfl (by omega) ⟨rfl,rfl⟩)|exact do_r rfl (st_sub rfl rfl ⟨rfl,rfl⟩)|exact do_k rfl (fun _ _=>st_sub64 rfl rfl (by omega) ⟨rfl,rfl⟩)|exact do_k rfl (fun _ _=>st_sub rfl rfl ⟨rfl,rfl⟩))(h:B):A:=k h
theorem ml_{A B:Prop}(k:B→A:=by intro b;first|exact al_p rfl (st_mul rfl rfl b)|exact g_y (st_mul rfl rfl b))(h:B):A:=k h
theorem eq_{A B:Prop}(k:B→A:=by intro b;first|exact al_p rfl (st_eql rfl rfl b)|exact al_p rfl (st_eqlS rfl rfl b)|exact al_p rfl (st_eqlB (by kernel_rfl) rfl rfl b)|exact g_y (st_eql rfl rfl b)|exact g_y (st_eqlS rfl rfl b)|exact g_y (st_eqlB (by kernel_rfl) rfl rfl b))(h:B):A:=k h
theorem deq_(i:Nat){A B:Prop}(k:Do i B A:=by first|exact do_r rfl (st_eql rfl rfl ⟨rfl,rfl⟩)|exact do_r rfl (st_eqlS rfl rfl ⟨rfl,rfl⟩)|exact do_r rfl (st_eqlB (by kernel_rfl) rfl rfl ⟨rfl,rfl⟩)|exact do_k rfl (fun _ _=>st_eql rfl rfl ⟨rfl,rfl⟩)|exact do_k rfl (fun _ _=>st_eqlS rfl rfl ⟨rfl,rfl⟩)|exact do_k rfl (fun _ _=>st_eqlB (by kernel_rfl) rfl rfl ⟨rfl,rfl⟩))(h:B):A:=k h
theorem nq_{A B:Prop}(k:B→A:=by intro b;first|exact al_p rfl (st_neq rfl rfl b)|exact al_p rfl (st_neqS rfl rfl b)|exact al_p rfl (st_neqB (by kernel_rfl) rfl rfl b)|exact g_y (st_neq rfl rfl b)|exact g_y (st_neqS rfl rfl b)|exact g_y (st_neqB (by kernel_rfl) rfl rfl b))(h:B):A:=k h
theorem dnq_(i:Nat){A B:Prop}(k:Do i B A:=by first|exact do_r rfl (st_neq rfl rfl ⟨rfl,rfl⟩)|exact do_r rfl (st_neqS rfl rfl ⟨rfl,rfl⟩)|exact do_r rfl (st_neqB (by kernel_rfl) rfl rfl ⟨rfl,rfl⟩)|exact do_k rfl (fun _ _=>st_neq rfl rfl ⟨rfl,rfl⟩)|exact do_k rfl (fun _ _=>st_neqS rfl rfl ⟨rfl,rfl⟩)|exact do_k rfl (fun _ _=>st_neqB (by kernel_rfl) rfl rfl ⟨rfl,rfl⟩))(h:B):A:=k h
theorem lt_{A B:Prop}(k:B→A:=by intro b;first|exact al_p rfl (st_lss rfl rfl b)|exact al_p rfl (st_lssS rfl rfl b)|exact g_y (st_lss rfl rfl b)|exact g_y (st_lssS rfl rfl b))(h:B):A:=k h
theorem le_{A B:Prop}(k:B→A:=by intro b;first|exact al_p rfl (st_leq rfl rfl b)|exact g_y (st_leq rfl rfl b))(h:B):A:=k h
theorem dle_(i:Nat){A B:Prop}(k:Do i B A:=by first|exact do_r rfl (st_leq rfl rfl ⟨rfl,rfl⟩)|exact do_k rfl (fun _ _=>st_leq rfl rfl ⟨rfl,rfl⟩))(h:B):A:=k h
theorem gt_{A B:Prop}(k:B→A:=by intro b;first|exact al_p rfl (st_gtr rfl rfl b)|exact g_y (st_gtr rfl rfl b))(h:B):A:=k h
theorem dgt_(i:Nat){A B:Prop}(k:Do i B A:=by first|exact do_r rfl (st_gtr rfl rfl ⟨rfl,rfl⟩)|exact do_k rfl (fun _ _=>st_gtr rfl rfl ⟨rfl,rfl⟩))(h:B):A:=k h
theorem ge_{A B:Prop}(k:B→A:=by intro b;first|exact al_p rfl (st_geq rfl rfl b)|exact al_p rfl (st_geqS rfl rfl b)|exact g_y (st_geq rfl rfl b)|exact g_y (st_geqS rfl rfl b))(h:B):A:=k h
theorem an_{A B:Prop}(k:B→A:=by intro b;first|exact al_p rfl (st_and rfl rfl b)|exact g_y (st_and rfl rfl b))(h:B):A:=k h
theorem at_{A B:Prop}(k:B→A:=by intro b;first|exact al_p rfl (st_andNot rfl rfl b)|exact g_y (st_andNot rfl rfl b))(h:B):A:=k h
theorem sr_{A B:Prop}(k:B→A:=by intro b;first|exact al_p rfl (st_shr rfl rfl (by omega) b)|exact g_y (st_shr rfl rfl (by omega) b))(h:B):A:=k h
end Go.Proofs.YtbglbmnhgbgelaaGreatDoor
namespace Go.Proofs.YtbglbmnhgbgelaaGreatDoor
open Go.RowKit
theorem wb_{f:Nat→Option AV}{bx:List (List AV)}{tk:List (Nat×Nat×List (List AV))}{l:List (Nat×AV)}{N:Dim}(n m:Nat){bx':List (List AV)}{tk':List (Nat×Nat×List (List AV))}(hbp:bpLtB n m bx'=true)(hn:Nat.ble N.ni n=true:=by rfl)(hb:bx.take n=bx':=by rfl)(ht:tk.take m=tk':=by rfl)(hl:Sub n m f l:=by repeat (first|exact Sub.nil|refine Sub.cons _ _ _ rfl rfl ?_|refine Sub.any _ _ ?_|refine Sub.sl _ _ _ _ _ rfl ?_|refine Sub.slnil _ _ _ rfl ?_)):Weak N ⟨f,⟨bx,tk⟩⟩ ⟨look l,⟨bx',tk'⟩⟩:=weak_of n m hn hb ht hbp hl
theorem bz_{P:Program}{ev:Operand→Option AV}{h:AH}{R:AV→AH→Prop}{d:Option Tmp}{ty:TypeId}{pos:String}{af:Array Edge}{gd:Option (Nat×Bool)}{T:TypeId}{l:List (Nat×Operand)}{pl:List (Nat×Nat)}{row cs:List AV}[hp:Plc P T pl][hz:Zer P T row](hR:R (.agg cs) h)(hf:FillA pl ev row l cs:=by repeat (first|exact FillA.nil _|(apply FillA.cons;(focus exact rfl);(focus exact rfl);(focus exact rfl);(focus exact rfl);(focus exact rfl);(focus (repeat constructor))))):AStep P ⟨d, .build T l.toArray,ty,pos,af,gd⟩ ev h R:=st_build hf hR
theorem lf_{P:Program}{ev:Operand→Option AV}{h:AH}{R:AV→AH→Prop}{o:Oper}{x y:AV}(hs:AStep P o ev h fun r h'=>r=x∧h'=h)(hR:R y h)(hl:LeA x y:=by repeat (first|exact LeA.refl _|exact LeA.nil _|exact LeL.refl _|refine LeA.agg ?_|refine LeA.tup ?_|exact LeL.nil|refine LeL.cons ?_ ?_|exact LeA.any _)):AStep P o ev h R:=st_le hs hl hR
instance :Typ Tryz.prog 3 1 false:=⟨by kernel_rfl⟩
instance :Typ Tryz.prog 4 1 false:=⟨by kernel_rfl⟩
instance :Typ Tryz.prog 9 1 false:=⟨by kernel_rfl⟩
instance :Typ Tryz.prog 22 1 false:=⟨by kernel_rfl⟩
instance :Elm Tryz.prog 22 3 1 8:=⟨by kernel_rfl,by decide⟩
instance :Typ Tryz.prog 26 1 false:=⟨by kernel_rfl⟩
instance :Elm Tryz.prog 26 120 2 32:=⟨by kernel_rfl,by decide⟩
instance :Typ Tryz.prog 28 1 true:=⟨by kernel_rfl⟩
instance :Zer Tryz.prog 28 [.v (.slice none 0 0)]:=⟨[.slice none 0 0],by kernel_rfl,rfl,rfl⟩
instance :Plc Tryz.prog 28 [(0,1)]:=⟨by kernel_rfl⟩
instance :Fld Tryz.prog 28 0 0 1:=⟨by kernel_rfl⟩
instance :Typ Tryz.prog 29 1 false:=⟨by kernel_rfl⟩
instance :Elm Tryz.prog 29 149 3 24:=⟨by kernel_rfl,by decide⟩
instance :Typ Tryz.prog 31 2 true:=⟨by kernel_rfl⟩
instance :Zer Tryz.prog 31 [.v (.slice none 0 0), .v (.slice none 0 0)]:=⟨[.slice none 0 0, .slice none 0 0],by kernel_rfl,rfl,rfl⟩
instance :Plc Tryz.prog 31 [(0,1),(1,1)]:=⟨by kernel_rfl⟩
instance :Fld Tryz.prog 31 0 0 1:=⟨by kernel_rfl⟩
instance :Fld Tryz.prog 31 1 1 1:=⟨by kernel_rfl⟩
instance :Typ Tryz.prog 36 2 true:=⟨by kernel_rfl⟩
instance :Zer Tryz.prog 36 [.v (.int .i64 0), .v (.int .i64 0)]:=⟨[.int .i64 0, .int .i64 0],by kernel_rfl,rfl,rfl⟩
instance :Plc Tryz.prog 36 [(0,1),(1,1)]:=⟨by kernel_rfl⟩
instance :Fld Tryz.prog 36 0 0 1:=⟨by kernel_rfl⟩
instance :Fld Tryz.prog 36 1 1 1:=⟨by kernel_rfl⟩
instance :Typ Tryz.prog 38 6 true:=⟨by kernel_rfl⟩
instance :Zer Tryz.prog 38 [.v (.int .i64 0), .v (.int .i64 0), .v (.int .i64 0), .v (.string ⟨#[]⟩), .v (.int .i64 0), .v (.int .i64 0)]:=⟨[.int .i64 0, .int .i64 0, .int .i64 0, .string ⟨#[]⟩, .int .i64 0, .int .i64 0],by kernel_rfl,rfl,rfl⟩
instance :Plc Tryz.prog 38 [(0,1),(1,2),(3,1),(4,2)]:=⟨by kernel_rfl⟩
instance :Fld Tryz.prog 38 0 0 1:=⟨by kernel_rfl⟩
instance :Fld Tryz.prog 38 1 1 2:=⟨by kernel_rfl⟩
instance :Fld Tryz.prog 38 2 3 1:=⟨by kernel_rfl⟩
instance :Fld Tryz.prog 38 3 4 2:=⟨by kernel_rfl⟩
instance :Typ Tryz.prog 39 1 false:=⟨by kernel_rfl⟩
instance :Typ Tryz.prog 52 13 true:=⟨by kernel_rfl⟩
instance :Zer Tryz.prog 52 [.v (.string ⟨#[]⟩), .v (.string ⟨#[]⟩), .v (.int .i64 0), .v (.int .i64 0), .v (.string ⟨#[]⟩), .v (.int .i64 0), .v (.int .i64 0), .v (.int .i64 0), .v (.int .i64 0), .v (.int .i64 0), .v (.int .i64 0), .v (.int .i64 0), .v (.int .i64 0)]:=⟨[.string ⟨#[]⟩, .string ⟨#[]⟩, .int .i64 0, .int .i64 0, .string ⟨#[]⟩, .int .i64 0, .int .i64 0, .int .i64 0, .int .i64 0, .int .i64 0, .int .i64 0, .int .i64 0, .int .i64 0],by kernel_rfl,rfl,rfl⟩
instance :Plc Tryz.prog 52 [(0,1),(1,1),(2,2),(4,1),(5,2),(7,1),(8,1),(9,1),(10,1),(11,1),(12,1)]:=⟨by kernel_rfl⟩
instance :Fld Tryz.prog 52 4 5 2:=⟨by kernel_rfl⟩
instance :Fld Tryz.prog 52 5 7 1:=⟨by kernel_rfl⟩
instance :Fld Tryz.prog 52 6 8 1:=⟨by kernel_rfl⟩
instance :Fld Tryz.prog 52 7 9 1:=⟨by kernel_rfl⟩
instance :Fld Tryz.prog 52 8 10 1:=⟨by kernel_rfl⟩
instance :Fld Tryz.prog 52 9 11 1:=⟨by kernel_rfl⟩
instance :Typ Tryz.prog 53 1 false:=⟨by kernel_rfl⟩
instance :Elm Tryz.prog 53 61 14 144:=⟨by kernel_rfl,by decide⟩
instance :Typ Tryz.prog 55 3 true:=⟨by kernel_rfl⟩
instance :Zer Tryz.prog 55 [.v (.int .i64 0), .v (.int .i64 0), .v (.slice none 0 0)]:=⟨[.int .i64 0, .int .i64 0, .slice none 0 0],by kernel_rfl,rfl,rfl⟩
instance :Plc Tryz.prog 55 [(0,1),(1,1),(2,1)]:=⟨by kernel_rfl⟩
instance :Fld Tryz.prog 55 0 0 1:=⟨by kernel_rfl⟩
instance :Fld Tryz.prog 55 1 1 1:=⟨by kernel_rfl⟩
instance :Fld Tryz.prog 55 2 2 1:=⟨by kernel_rfl⟩
instance :Typ Tryz.prog 57 5 true:=⟨by kernel_rfl⟩
instance :Zer Tryz.prog 57 [.v (.slice none 0 0), .v (.slice none 0 0), .v (.int .i64 0), .v (.int .i64 0), .v (.slice none 0 0)]:=⟨[.slice none 0 0, .slice none 0 0, .int .i64 0, .int .i64 0, .slice none 0 0],by kernel_rfl,rfl,rfl⟩
instance :Plc Tryz.prog 57 [(0,2),(2,3)]:=⟨by kernel_rfl⟩
instance :Fld Tryz.prog 57 0 0 2:=⟨by kernel_rfl⟩
instance :Fld Tryz.prog 57 1 2 3:=⟨by kernel_rfl⟩
instance :Typ Tryz.prog 59 1 false:=⟨by kernel_rfl⟩
instance :Elm Tryz.prog 59 243 4 32:=⟨by kernel_rfl,by decide⟩
instance :Typ Tryz.prog 61 14 true:=⟨by kernel_rfl⟩
instance :Zer Tryz.prog 61 [.v (.int .i64 0), .v (.int .i64 0), .v (.int .i64 0), .v (.int .i64 0), .v (.int .i64 0), .v (.int .i64 0), .v (.int .i64 0), .v (.int .i64 0), .v (.int .i64 0), .v (.int .i64 0), .v (.string ⟨#[]⟩), .v (.string ⟨#[]⟩), .v (.slice none 0 0), .v (.bool false)]:=⟨[.int .i64 0, .int .i64 0, .int .i64 0, .int .i64 0, .int .i64 0, .int .i64 0, .int .i64 0, .int .i64 0, .int .i64 0, .int .i64 0, .string ⟨#[]⟩, .string ⟨#[]⟩, .slice none 0 0, .bool false],by kernel_rfl,rfl,rfl⟩
instance :Plc Tryz.prog 61 [(0,1),(1,1),(2,1),(3,1),(4,1),(5,1),(6,1),(7,1),(8,2),(10,1),(11,1),(12,1),(13,1)]:=⟨by kernel_rfl⟩
instance :Fld Tryz.prog 61 0 0 1:=⟨by kernel_rfl⟩
instance :Fld Tryz.prog 61 3 3 1:=⟨by kernel_rfl⟩
instance :Fld Tryz.prog 61 5 5 1:=⟨by kernel_rfl⟩
instance :Fld Tryz.prog 61 8 8 2:=⟨by kernel_rfl⟩
instance :Fld Tryz.prog 61 11 12 1:=⟨by kernel_rfl⟩
instance :Typ Tryz.prog 62 4 true:=⟨by kernel_rfl⟩
instance :Zer Tryz.prog 62 [.v (.int .i64 0), .v (.int .i64 0), .v (.int .i64 0), .v (.int .i64 0)]:=⟨[.int .i64 0, .int .i64 0, .int .i64 0, .int .i64 0],by kernel_rfl,rfl,rfl⟩
instance :Plc Tryz.prog 62 [(0,1),(1,1),(2,1),(3,1)]:=⟨by kernel_rfl⟩
instance :Typ Tryz.prog 63 1 false:=⟨by kernel_rfl⟩
instance :Elm Tryz.prog 63 9 1 16:=⟨by kernel_rfl,by decide⟩
instance :Typ Tryz.prog 65 7 true:=⟨by kernel_rfl⟩
instance :Zer Tryz.prog 65 [.v (.int .i64 0), .v (.int .i64 0), .v (.int .i64 0), .v (.int .i64 0), .v (.int .i64 0), .v (.slice none 0 0), .v (.slice none 0 0)]:=⟨[.int .i64 0, .int .i64 0, .int .i64 0, .int .i64 0, .int .i64 0, .slice none 0 0, .slice none 0 0],by kernel_rfl,rfl,rfl⟩
instance :Plc Tryz.prog 65 [(0,1),(1,4),(5,1),(6,1)]:=⟨by kernel_rfl⟩
instance :Fld Tryz.prog 65 0 0 1:=⟨by kernel_rfl⟩
instance :Fld Tryz.prog 65 1 1 4:=⟨by kernel_rfl⟩
instance :Fld Tryz.prog 65 2 5 1:=⟨by kernel_rfl⟩
instance :Fld Tryz.prog 65 3 6 1:=⟨by kernel_rfl⟩
instance :Typ Tryz.prog 66 1 false:=⟨by kernel_rfl⟩
instance :Elm Tryz.prog 66 52 13 128:=⟨by kernel_rfl,by decide⟩
instance :Typ Tryz.prog 69 1 false:=⟨by kernel_rfl⟩
instance :Elm Tryz.prog 69 79 7 64:=⟨by kernel_rfl,by decide⟩
instance :Typ Tryz.prog 71 5 true:=⟨by kernel_rfl⟩
instance :Zer Tryz.prog 71 [.v (.int .i64 0), .v (.int .i64 0), .v (.int .i64 0), .v (.slice none 0 0), .v (.slice none 0 0)]:=⟨[.int .i64 0, .int .i64 0, .int .i64 0, .slice none 0 0, .slice none 0 0],by kernel_rfl,rfl,rfl⟩
instance :Plc Tryz.prog 71 [(0,1),(1,1),(2,1),(3,1),(4,1)]:=⟨by kernel_rfl⟩
instance :Fld Tryz.prog 71 0 0 1:=⟨by kernel_rfl⟩
instance :Fld Tryz.prog 71 2 2 1:=⟨by kernel_rfl⟩
instance :Fld Tryz.prog 71 3 3 1:=⟨by kernel_rfl⟩
instance :Fld Tryz.prog 71 4 4 1:=⟨by kernel_rfl⟩
instance :Typ Tryz.prog 79 7 true:=⟨by kernel_rfl⟩
instance :Zer Tryz.prog 79 [.v (.int .i64 0), .v (.int .i64 0), .v (.string ⟨#[]⟩), .v (.int .i64 0), .v (.int .i64 0), .v (.int .i64 0), .v (.int .i64 0)]:=⟨[.int .i64 0, .int .i64 0, .string ⟨#[]⟩, .int .i64 0, .int .i64 0, .int .i64 0, .int .i64 0],by kernel_rfl,rfl,rfl⟩
instance :Plc Tryz.prog 79 [(0,2),(2,1),(3,2),(5,2)]:=⟨by kernel_rfl⟩
instance :Fld Tryz.prog 79 0 0 2:=⟨by kernel_rfl⟩
instance :Fld Tryz.prog 79 1 2 1:=⟨by kernel_rfl⟩
instance :Fld Tryz.prog 79 2 3 2:=⟨by kernel_rfl⟩
instance :Fld Tryz.prog 79 3 5 2:=⟨by kernel_rfl⟩
instance :Typ Tryz.prog 99 1 false:=⟨by kernel_rfl⟩
instance :Elm Tryz.prog 99 138 2 24:=⟨by kernel_rfl,by decide⟩
instance :Typ Tryz.prog 101 8 true:=⟨by kernel_rfl⟩
instance :Zer Tryz.prog 101 [.v (.int .i64 0), .v (.int .i64 0), .v (.int .i64 0), .v (.int .i64 0), .v (.int .i64 0), .v (.int .i64 0), .v (.string ⟨#[]⟩), .v (.slice none 0 0)]:=⟨[.int .i64 0, .int .i64 0, .int .i64 0, .int .i64 0, .int .i64 0, .int .i64 0, .string ⟨#[]⟩, .slice none 0 0],by kernel_rfl,rfl,rfl⟩
instance :Plc Tryz.prog 101 [(0,1),(1,1),(2,1),(3,1),(4,1),(5,1),(6,1),(7,1)]:=⟨by kernel_rfl⟩
instance :Fld Tryz.prog 101 0 0 1:=⟨by kernel_rfl⟩
instance :Fld Tryz.prog 101 1 1 1:=⟨by kernel_rfl⟩
instance :Fld Tryz.prog 101 2 2 1:=⟨by kernel_rfl⟩
instance :Fld Tryz.prog 101 3 3 1:=⟨by kernel_rfl⟩
instance :Fld Tryz.prog 101 4 4 1:=⟨by kernel_rfl⟩
instance :Fld Tryz.prog 101 5 5 1:=⟨by kernel_rfl⟩
instance :Fld Tryz.prog 101 6 6 1:=⟨by kernel_rfl⟩
instance :Fld Tryz.prog 101 7 7 1:=⟨by kernel_rfl⟩
instance :Zer Tryz.prog 106 [.v (.slice none 0 0), .v (.int .i64 0)]:=⟨[.slice none 0 0, .int .i64 0],by kernel_rfl,rfl,rfl⟩
instance :Plc Tryz.prog 106 [(0,1),(1,1)]:=⟨by kernel_rfl⟩
instance :Fld Tryz.prog 106 0 0 1:=⟨by kernel_rfl⟩
instance :Fld Tryz.prog 106 1 1 1:=⟨by kernel_rfl⟩
instance :Typ Tryz.prog 113 8 true:=⟨by kernel_rfl⟩
instance :Zer Tryz.prog 113 [.v (.int .i64 0), .v (.int .i64 0), .v (.string ⟨#[]⟩), .v (.int .i64 0), .v (.int .i64 0), .v (.bool false), .v (.bool false), .v (.string ⟨#[]⟩)]:=⟨[.int .i64 0, .int .i64 0, .string ⟨#[]⟩, .int .i64 0, .int .i64 0, .bool false, .bool false, .string ⟨#[]⟩],by kernel_rfl,rfl,rfl⟩
instance :Plc Tryz.prog 113 [(0,2),(2,1),(3,2),(5,1),(6,1),(7,1)]:=⟨by kernel_rfl⟩
instance :Fld Tryz.prog 113 0 0 2:=⟨by kernel_rfl⟩
instance :Fld Tryz.prog 113 1 2 1:=⟨by kernel_rfl⟩
instance :Fld Tryz.prog 113 2 3 2:=⟨by kernel_rfl⟩
instance :Fld Tryz.prog 113 3 5 1:=⟨by kernel_rfl⟩
instance :Fld Tryz.prog 113 4 6 1:=⟨by kernel_rfl⟩
instance :Fld Tryz.prog 113 5 7 1:=⟨by kernel_rfl⟩
instance :Typ Tryz.prog 118 1 false:=⟨by kernel_rfl⟩
instance :Elm Tryz.prog 118 101 8 88:=⟨by kernel_rfl,by decide⟩
instance :Typ Tryz.prog 120 2 true:=⟨by kernel_rfl⟩
instance :Zer Tryz.prog 120 [.v (.int .i64 0), .v (.slice none 0 0)]:=⟨[.int .i64 0, .slice none 0 0],by kernel_rfl,rfl,rfl⟩
instance :Plc Tryz.prog 120 [(0,1),(1,1)]:=⟨by kernel_rfl⟩
instance :Fld Tryz.prog 120 0 0 1:=⟨by kernel_rfl⟩
instance :Fld Tryz.prog 120 1 1 1:=⟨by kernel_rfl⟩
instance :Typ Tryz.prog 128 1 false:=⟨by kernel_rfl⟩
instance :Elm Tryz.prog 128 113 8 72:=⟨by kernel_rfl,by decide⟩
instance :Zer Tryz.prog 130 [.v (.slice none 0 0), .v (.slice none 0 0), .v (.int .i64 0), .v (.int .i64 0), .v (.slice none 0 0), .v (.int .i64 0), .v (.int .i64 0), .v (.int .i64 0), .v (.int .i64 0), .v (.int .i64 0), .v (.int .i64 0), .v (.int .i64 0), .v (.int .i64 0), .v (.int .i64 0), .v (.int .i64 0), .v (.string ⟨#[]⟩), .v (.string ⟨#[]⟩), .v (.slice none 0 0), .v (.bool false), .v (.int .i64 0), .v (.int .i64 0), .v (.int .i64 0), .v (.int .i64 0), .v (.int .i64 0), .v (.slice none 0 0), .v (.slice none 0 0), .v (.slice none 0 0), .v (.int .i64 0), .v (.int .i64 0), .v (.int .i64 0), .v (.slice none 0 0), .v (.slice none 0 0)]:=⟨[.slice none 0 0, .slice none 0 0, .int .i64 0, .int .i64 0, .slice none 0 0, .int .i64 0, .int .i64 0, .int .i64 0, .int .i64 0, .int .i64 0, .int .i64 0, .int .i64 0, .int .i64 0, .int .i64 0, .int .i64 0, .string ⟨#[]⟩, .string ⟨#[]⟩, .slice none 0 0, .bool false, .int .i64 0, .int .i64 0, .int .i64 0, .int .i64 0, .int .i64 0, .slice none 0 0, .slice none 0 0, .slice none 0 0, .int .i64 0, .int .i64 0, .int .i64 0, .slice none 0 0, .slice none 0 0],by kernel_rfl,rfl,rfl⟩
instance :Plc Tryz.prog 130 [(0,5),(5,14),(19,7),(26,1),(27,5)]:=⟨by kernel_rfl⟩
instance :Fld Tryz.prog 130 0 0 5:=⟨by kernel_rfl⟩
instance :Fld Tryz.prog 130 1 5 14:=⟨by kernel_rfl⟩
instance :Fld Tryz.prog 130 2 19 7:=⟨by kernel_rfl⟩
instance :Fld Tryz.prog 130 3 26 1:=⟨by kernel_rfl⟩
instance :Fld Tryz.prog 130 4 27 5:=⟨by kernel_rfl⟩
instance :Typ Tryz.prog 138 2 true:=⟨by kernel_rfl⟩
instance :Zer Tryz.prog 138 [.v (.string ⟨#[]⟩), .v (.int .i64 0)]:=⟨[.string ⟨#[]⟩, .int .i64 0],by kernel_rfl,rfl,rfl⟩
instance :Plc Tryz.prog 138 [(0,1),(1,1)]:=⟨by kernel_rfl⟩
instance :Fld Tryz.prog 138 0 0 1:=⟨by kernel_rfl⟩
instance :Fld Tryz.prog 138 1 1 1:=⟨by kernel_rfl⟩
instance :Elm Tryz.prog 140 39 1 8:=⟨by kernel_rfl,by decide⟩
instance :Typ Tryz.prog 149 3 true:=⟨by kernel_rfl⟩
instance :Zer Tryz.prog 149 [.v (.int .i64 0), .v (.int .i64 0), .v (.int .i64 0)]:=⟨[.int .i64 0, .int .i64 0, .int .i64 0],by kernel_rfl,rfl,rfl⟩
instance :Plc Tryz.prog 149 [(0,1),(1,2)]:=⟨by kernel_rfl⟩
instance :Fld Tryz.prog 149 0 0 1:=⟨by kernel_rfl⟩
instance :Fld Tryz.prog 149 1 1 2:=⟨by kernel_rfl⟩
instance :Typ Tryz.prog 167 11 true:=⟨by kernel_rfl⟩
instance :Zer Tryz.prog 167 [.v (.slice none 0 0), .v (.slice none 0 0), .v (.slice none 0 0), .v (.int .i64 0), .v (.int .i64 0), .v (.int .i64 0), .v (.int .i64 0), .v (.string ⟨#[]⟩), .v (.bool false), .v (.bool false), .v (.int .i64 0)]:=⟨[.slice none 0 0, .slice none 0 0, .slice none 0 0, .int .i64 0, .int .i64 0, .int .i64 0, .int .i64 0, .string ⟨#[]⟩, .bool false, .bool false, .int .i64 0],by kernel_rfl,rfl,rfl⟩
instance :Plc Tryz.prog 167 [(0,2),(2,1),(3,2),(5,2),(7,1),(8,1),(9,1),(10,1)]:=⟨by kernel_rfl⟩
instance :Fld Tryz.prog 167 0 0 2:=⟨by kernel_rfl⟩
instance :Fld Tryz.prog 167 1 2 1:=⟨by kernel_rfl⟩
instance :Fld Tryz.prog 167 2 3 2:=⟨by kernel_rfl⟩
instance :Fld Tryz.prog 167 3 5 2:=⟨by kernel_rfl⟩
instance :Fld Tryz.prog 167 4 7 1:=⟨by kernel_rfl⟩
instance :Fld Tryz.prog 167 5 8 1:=⟨by kernel_rfl⟩
instance :Fld Tryz.prog 167 6 9 1:=⟨by kernel_rfl⟩
instance :Fld Tryz.prog 167 7 10 1:=⟨by kernel_rfl⟩
instance :Typ Tryz.prog 181 5 true:=⟨by kernel_rfl⟩
instance :Zer Tryz.prog 181 [.v (.string ⟨#[]⟩), .v (.int .i64 0), .v (.int .i64 0), .v (.int .i64 0), .v (.int .i64 0)]:=⟨[.string ⟨#[]⟩, .int .i64 0, .int .i64 0, .int .i64 0, .int .i64 0],by kernel_rfl,rfl,rfl⟩
instance :Plc Tryz.prog 181 [(0,1),(1,1),(2,1),(3,1),(4,1)]:=⟨by kernel_rfl⟩
instance :Fld Tryz.prog 181 0 0 1:=⟨by kernel_rfl⟩
instance :Fld Tryz.prog 181 1 1 1:=⟨by kernel_rfl⟩
instance :Fld Tryz.prog 181 2 2 1:=⟨by kernel_rfl⟩
instance :Fld Tryz.prog 181 3 3 1:=⟨by kernel_rfl⟩
instance :Fld Tryz.prog 181 4 4 1:=⟨by kernel_rfl⟩
instance :Elm Tryz.prog 206 181 5 48:=⟨by kernel_rfl,by decide⟩
instance :Zer Tryz.prog 243 [.v (.int .i64 0), .v (.int .i64 0), .v (.int .i64 0), .v (.int .i64 0)]:=⟨[.int .i64 0, .int .i64 0, .int .i64 0, .int .i64 0],by kernel_rfl,rfl,rfl⟩
instance :Plc Tryz.prog 243 [(0,1),(1,2),(3,1)]:=⟨by kernel_rfl⟩
instance :Fld Tryz.prog 243 0 0 1:=⟨by kernel_rfl⟩
instance :Fun Tryz.prog 11:=⟨by kernel_rfl⟩
instance :Fun Tryz.prog 12:=⟨by kernel_rfl⟩
instance :Fun Tryz.prog 13:=⟨by kernel_rfl⟩
instance :Fun Tryz.prog 14:=⟨by kernel_rfl⟩
instance :Fun Tryz.prog 15:=⟨by kernel_rfl⟩
instance :Fun Tryz.prog 16:=⟨by kernel_rfl⟩
instance :Fun Tryz.prog 17:=⟨by kernel_rfl⟩
instance :Fun Tryz.prog 18:=⟨by kernel_rfl⟩
instance :Fun Tryz.prog 19:=⟨by kernel_rfl⟩
instance :Fun Tryz.prog 21:=⟨by kernel_rfl⟩
instance :Fun Tryz.prog 22:=⟨by kernel_rfl⟩
instance :Fun Tryz.prog 23:=⟨by kernel_rfl⟩
instance :Fun Tryz.prog 24:=⟨by kernel_rfl⟩
instance :Fun Tryz.prog 32:=⟨by kernel_rfl⟩
instance :Fun Tryz.prog 33:=⟨by kernel_rfl⟩
instance :Fun Tryz.prog 35:=⟨by kernel_rfl⟩
instance :Fun Tryz.prog 38:=⟨by kernel_rfl⟩
instance :Fun Tryz.prog 39:=⟨by kernel_rfl⟩
instance :Fun Tryz.prog 41:=⟨by kernel_rfl⟩
instance :Fun Tryz.prog 43:=⟨by kernel_rfl⟩
instance :Fun Tryz.prog 44:=⟨by kernel_rfl⟩
instance :Fun Tryz.prog 45:=⟨by kernel_rfl⟩
instance :Fun Tryz.prog 46:=⟨by kernel_rfl⟩
instance :Fun Tryz.prog 47:=⟨by kernel_rfl⟩
instance :Fun Tryz.prog 48:=⟨by kernel_rfl⟩
instance :Fun Tryz.prog 49:=⟨by kernel_rfl⟩
instance :Fun Tryz.prog 50:=⟨by kernel_rfl⟩
instance :Fun Tryz.prog 51:=⟨by kernel_rfl⟩
instance :Fun Tryz.prog 52:=⟨by kernel_rfl⟩
instance :Fun Tryz.prog 53:=⟨by kernel_rfl⟩
instance :Fun Tryz.prog 54:=⟨by kernel_rfl⟩
instance :Fun Tryz.prog 55:=⟨by kernel_rfl⟩
instance :Fun Tryz.prog 56:=⟨by kernel_rfl⟩
instance :Fun Tryz.prog 57:=⟨by kernel_rfl⟩
instance :Fun Tryz.prog 58:=⟨by kernel_rfl⟩
instance :Fun Tryz.prog 59:=⟨by kernel_rfl⟩
instance :Fun Tryz.prog 61:=⟨by kernel_rfl⟩
instance :Fun Tryz.prog 63:=⟨by kernel_rfl⟩
instance :Fun Tryz.prog 64:=⟨by kernel_rfl⟩
instance :Fun Tryz.prog 65:=⟨by kernel_rfl⟩
instance :Fun Tryz.prog 66:=⟨by kernel_rfl⟩
instance :Fun Tryz.prog 67:=⟨by kernel_rfl⟩
instance :Fun Tryz.prog 68:=⟨by kernel_rfl⟩
instance :Fun Tryz.prog 70:=⟨by kernel_rfl⟩
instance :Fun Tryz.prog 71:=⟨by kernel_rfl⟩
instance :Fun Tryz.prog 72:=⟨by kernel_rfl⟩
instance :Fun Tryz.prog 73:=⟨by kernel_rfl⟩
instance :Fun Tryz.prog 74:=⟨by kernel_rfl⟩
instance :Fun Tryz.prog 75:=⟨by kernel_rfl⟩
instance :Fun Tryz.prog 76:=⟨by kernel_rfl⟩
instance :Fun Tryz.prog 77:=⟨by kernel_rfl⟩
instance :Fun Tryz.prog 78:=⟨by kernel_rfl⟩
instance :Fun Tryz.prog 79:=⟨by kernel_rfl⟩
instance :Fun Tryz.prog 81:=⟨by kernel_rfl⟩
instance :Fun Tryz.prog 83:=⟨by kernel_rfl⟩
instance :Fun Tryz.prog 84:=⟨by kernel_rfl⟩
instance :Fun Tryz.prog 85:=⟨by kernel_rfl⟩
instance :Fun Tryz.prog 86:=⟨by kernel_rfl⟩
instance :Fun Tryz.prog 87:=⟨by kernel_rfl⟩
instance :Fun Tryz.prog 88:=⟨by kernel_rfl⟩
instance :Fun Tryz.prog 91:=⟨by kernel_rfl⟩
instance :Fun Tryz.prog 92:=⟨by kernel_rfl⟩
instance :Fun Tryz.prog 93:=⟨by kernel_rfl⟩
instance :Fun Tryz.prog 94:=⟨by kernel_rfl⟩
instance :Fun Tryz.prog 95:=⟨by kernel_rfl⟩
instance :Fun Tryz.prog 96:=⟨by kernel_rfl⟩
instance :Fun Tryz.prog 97:=⟨by kernel_rfl⟩
instance :Fun Tryz.prog 98:=⟨by kernel_rfl⟩
instance :Fun Tryz.prog 99:=⟨by kernel_rfl⟩
instance :Fun Tryz.prog 100:=⟨by kernel_rfl⟩
instance :Fun Tryz.prog 101:=⟨by kernel_rfl⟩
instance :Fun Tryz.prog 102:=⟨by kernel_rfl⟩
instance :Fun Tryz.prog 103:=⟨by kernel_rfl⟩
instance :Fun Tryz.prog 105:=⟨by kernel_rfl⟩
instance :Fun Tryz.prog 107:=⟨by kernel_rfl⟩
instance :Fun Tryz.prog 108:=⟨by kernel_rfl⟩
instance :Fun Tryz.prog 109:=⟨by kernel_rfl⟩
instance :Fun Tryz.prog 110:=⟨by kernel_rfl⟩
instance :Fun Tryz.prog 111:=⟨by kernel_rfl⟩
instance :Fun Tryz.prog 112:=⟨by kernel_rfl⟩
instance :Fun Tryz.prog 113:=⟨by kernel_rfl⟩
instance :Fun Tryz.prog 114:=⟨by kernel_rfl⟩
instance :Fun Tryz.prog 117:=⟨by kernel_rfl⟩
instance :Fun Tryz.prog 122:=⟨by kernel_rfl⟩
instance :Fun Tryz.prog 124:=⟨by kernel_rfl⟩
instance :Fun Tryz.prog 125:=⟨by kernel_rfl⟩
instance :Fun Tryz.prog 126:=⟨by kernel_rfl⟩
instance :Fun Tryz.prog 127:=⟨by kernel_rfl⟩
instance :Fun Tryz.prog 128:=⟨by kernel_rfl⟩
instance :Fun Tryz.prog 132:=⟨by kernel_rfl⟩
instance :Fun Tryz.prog 134:=⟨by kernel_rfl⟩
instance :Fun Tryz.prog 135:=⟨by kernel_rfl⟩
instance :Fun Tryz.prog 136:=⟨by kernel_rfl⟩
instance :Fun Tryz.prog 137:=⟨by kernel_rfl⟩
instance :Fun Tryz.prog 138:=⟨by kernel_rfl⟩
instance :Fun Tryz.prog 139:=⟨by kernel_rfl⟩
instance :Fun Tryz.prog 140:=⟨by kernel_rfl⟩
instance :Fun Tryz.prog 141:=⟨by kernel_rfl⟩
instance :Fun Tryz.prog 142:=⟨by kernel_rfl⟩
instance :Fun Tryz.prog 143:=⟨by kernel_rfl⟩
instance :Fun Tryz.prog 145:=⟨by kernel_rfl⟩
instance :Fun Tryz.prog 147:=⟨by kernel_rfl⟩
instance :Fun Tryz.prog 148:=⟨by kernel_rfl⟩
instance :Fun Tryz.prog 149:=⟨by kernel_rfl⟩
instance :Fun Tryz.prog 150:=⟨by kernel_rfl⟩
instance :Fun Tryz.prog 151:=⟨by kernel_rfl⟩
instance :Fun Tryz.prog 152:=⟨by kernel_rfl⟩
instance :Fun Tryz.prog 153:=⟨by kernel_rfl⟩
instance :Fun Tryz.prog 154:=⟨by kernel_rfl⟩
instance :Fun Tryz.prog 155:=⟨by kernel_rfl⟩
instance :Fun Tryz.prog 156:=⟨by kernel_rfl⟩
instance :Fun Tryz.prog 177:=⟨by kernel_rfl⟩
instance :Fun Tryz.prog 181:=⟨by kernel_rfl⟩
instance :Fun Tryz.prog 182:=⟨by kernel_rfl⟩
instance :Fun Tryz.prog 187:=⟨by kernel_rfl⟩
instance :Fun Tryz.prog 188:=⟨by kernel_rfl⟩
end Go.Proofs.YtbglbmnhgbgelaaGreatDoor
namespace Go.Proofs.YtbglbmnhgbgelaaGreatDoor
abbrev Str:=ByteArray
abbrev Fil:=Int×Int
abbrev Ent:=Str×Int
abbrev Mnt:=Int×Fil
abbrev Chg:=Fil×Str×Fil×Fil
structure Nod where
 ino:Int
 kind:Int
 mode:Int
 uid:Int
 gid:Int
 parent:Int
 target:Str
 entries:List Ent
structure Dvc where
 next:Int
 nodes:List Nod
abbrev Fls:=List Dvc
structure Spc where
 files:Fls
 mounts:List Mnt
def Nod.zero:Nod:=⟨0,0,0,0,0,0,⟨#[]⟩,[]⟩
def idxBy{α:Type}(p:α→Bool)(l:List α):Int:=
 match l.findIdx? p with
 |some i=>(i:Int)
 |none=> -1
def atI{α:Type}(l:List α)(i:Int):Option α:=if i<0 then none else l[i.toNat]?
theorem atI_nat{α:Type}(l:List α)(k:Nat):atI l (k:Int)=l[k]?:=by
 simp[atI,show¬((k:Int)<0) by omega]
theorem atI_none{α:Type}{l:List α}{i:Int}(h:i<0∨(l.length:Int)≤i):atI l i=none:=by
 unfold atI
 split
 ·rfl
 rw[List.getElem?_eq_none];omega
theorem atI_some{α:Type}{l:List α}{i:Int}{x:α}(h:atI l i=some x):0≤i∧i<l.length∧l[i.toNat]?=some x:=by
 unfold atI at h
 split at h
 ·cases h
 have:=(List.getElem?_eq_some_iff.1 h).1
 exact⟨by omega,by omega,h⟩
theorem findIdx?_first{α:Type}{p:α→Bool}{l:List α}{m:Nat}{x:α}(hx:l[m]?=some x)(hp:p x=true)(h:∀j y,j<m→l[j]?=some y→p y=false):l.findIdx? p=some m:=by
 have hl:m<l.length:=(List.getElem?_eq_some_iff.1 hx).1
 rw[List.findIdx?_eq_some_iff_getElem]
 refine⟨hl,by rw[(List.getElem?_eq_some_iff.1 hx).2];exact hp,fun j hj=>?_⟩
 have:=h j l[j] hj (List.getElem?_eq_getElem _)
 simp[this]
theorem idxBy_first{α:Type}{p:α→Bool}{l:List α}{m:Nat}{x:α}(hx:l[m]?=some x)(hp:p x=true)(h:∀j y,j<m→l[j]?=some y→p y=false):idxBy p l=m:=by
 unfold idxBy
 rw[findIdx?_first hx hp h]
theorem idxBy_none{α:Type}{p:α→Bool}{l:List α}(h:∀j y,j<l.length→l[j]?=some y→p y=false):idxBy p l= -1:=by
 unfold idxBy
 rw[List.findIdx?_eq_none_iff.2]
 intro x hx
 obtain⟨j,hj,rfl⟩:=List.mem_iff_getElem.1 hx
 exact h j _ hj (List.getElem?_eq_getElem hj)
theorem upto_snoc{α:Type}{P:α→Prop}{l:List α}{m:Nat}{x:α}(hx:l[m]?=some x)(h:∀j y,j<m→l[j]?=some y→P y)(hp:P x):∀j y,j<m+1→l[j]?=some y→P y:=by
 intro j y hj hy
 by_cases e:j=m
 ·subst e
  rw[hx]at hy
  cases hy
  exact hp
 exact h j y (by omega) hy
def indexL(f:Fls)(at_:Fil):Int:=
 match atI f at_.1 with
 |none=> -1
 |some d=>idxBy (fun n:Nod=>n.ino==at_.2) d.nodes
def nodeL(f:Fls)(at_:Fil):Option Nod:=
 match atI f at_.1 with
 |none=>none
 |some d=>d.nodes.find? (fun n:Nod=>n.ino==at_.2)
theorem find?_of_findIdx?{α:Type}{p:α→Bool}{l:List α}:(l.findIdx? p).bind (fun i=>l[i]?)=l.find? p:=by
 cases h:l.findIdx? p with
 |none=>
   rw[List.findIdx?_eq_none_iff]at h
   simp only[Option.bind_none]
   exact(List.find?_eq_none.2 (fun x hx=>by simp[h x hx])).symm
 |some i=>
   obtain⟨hi,hp,hf⟩:=List.findIdx?_eq_some_iff_getElem.1 h
   simp only[Option.bind_some,List.getElem?_eq_getElem hi]
   exact(List.find?_eq_some_iff_getElem.2 ⟨hp,i,hi,rfl,fun j hj=>by simpa using hf j hj⟩).symm
theorem index_node(f:Fls)(at_:Fil):(indexL f at_= -1∧nodeL f at_=none)∨
    ∃(k i:Nat) (d:Dvc) (n:Nod),at_.1=k∧f[k]?=some d∧d.nodes[i]?=some n∧n.ino=at_.2∧indexL f at_=i∧nodeL f at_=some n:=by
 unfold indexL nodeL
 cases h:atI f at_.1 with
 |none=>exact .inl ⟨rfl,rfl⟩
 |some d=>
   obtain⟨h0,h1,h2⟩:=atI_some h
   simp only[←find?_of_findIdx?]
   unfold idxBy
   cases hi:d.nodes.findIdx? (fun n:Nod=>n.ino==at_.2)with
   |none=>exact .inl ⟨rfl,rfl⟩
   |some i=>
     obtain⟨hl,hp,_⟩:=List.findIdx?_eq_some_iff_getElem.1 hi
     exact .inr ⟨at_.1.toNat,i,d,d.nodes[i],by omega,h2,List.getElem?_eq_getElem hl,by simpa using hp,rfl,by simp⟩
theorem str_eq(a b:Str):(a.toList==b.toList)=decide (a=b):=by
 rw[ByteArray.toList_eq,ByteArray.toList_eq,Bool.eq_iff_iff]
 simp only[beq_iff_eq,decide_eq_true_eq]
 constructor
 ·intro h
  cases a with
  |mk a=>
    cases b with
    |mk b=>exact congrArg ByteArray.mk (Array.toList_inj.1 h)
 intro h
 rw[h]
def byteOK(c:UInt8):Bool:= !((c.toNat:Int)==0)&& !((c.toNat:Int)==47)
def nameL(s:Str):Bool:=
 if s.size<1∨12<s.size then false else if(s.toList==[46])=true then false else if(s.toList==[46,46])=true then false else s.data.toList.all byteOK
def targetL(s:Str):Bool:=s.data.toList.all (fun c=> !((c.toNat:Int)==0))&&decide (1≤s.size)&&decide (s.size≤128)
theorem all_upto{p:UInt8→Bool}{s:Str}(h:∀j (hj:j<s.size),p s[j]=true):s.data.toList.all p=true:=by
 rw[List.all_eq_true]
 intro c hc
 obtain⟨j,hj,rfl⟩:=List.mem_iff_getElem.1 hc
 exact h j (by simpa using hj)
theorem all_not{p:UInt8→Bool}{s:Str}{j:Nat}(hj:j<s.size)(h:p s[j]=false):s.data.toList.all p=false:=by
 rw[List.all_eq_false]
 refine⟨s[j],?_,by simp[h]⟩
 have:s[j]=s.data.toList[j]'(by simpa using hj):=rfl
 rw[this]
 exact List.getElem_mem _
theorem bytes_snoc{p:UInt8→Bool}{s:Str}{m:Nat}(hm:m<s.size)(h:∀j (hj:j<s.size),j<m→p s[j]=true)(hp:p s[m]=true):∀j (hj:j<s.size),j<m+1→p s[j]=true:=by
 intro j hj hlt
 by_cases e:j=m
 ·subst e;exact hp
 exact h j hj (by omega)
def dirL(f:Fls)(at_:Fil):Bool:=
 match nodeL f at_ with
 |none=>false
 |some n=>n.kind==2
def placeL(f:Fls)(dir:Fil)(name:Str):Int:=
 match nodeL f dir with
 |none=>2
 |some n=>if n.kind=2 then(if nameL name then 0 else 22)else 20
def fullL(f:Fls)(dir:Fil):Bool:=
 match nodeL f dir with
 |none=>false
 |some n=>decide (12≤n.entries.length)
def emptyL(f:Fls)(dir:Fil):Bool:=
 match nodeL f dir with
 |none=>true
 |some n=>decide (n.entries.length=0)
def lookL(f:Fls)(dir:Fil)(name:Str):Fil×Int:=
 match nodeL f dir with
 |none=>((0,0),2)
 |some n=>if n.kind=2 then
     match n.entries.find? (fun e:Ent=>decide (e.1=name))with
     |none=>((0,0),2)
     |some e=>((dir.1,e.2),0)
   else((0,0),20)
def plainL(n:Nod):Bool:=
 if n.kind<1∨3<n.kind∨n.mode<0∨511<n.mode∨n.uid<0∨4294967295<n.uid∨n.gid<0∨4294967295<n.gid then false
 else if n.kind=3 then targetL n.target else n.target.toList.isEmpty
end Go.Proofs.YtbglbmnhgbgelaaGreatDoor
namespace Go.Proofs.YtbglbmnhgbgelaaGreatDoor
def strLt(a b:Str):Bool:=Op.bytesLess a.toList b.toList
def entGo(name:Str)(ino:Int):Bool→List Ent→List Ent
 |done,[]=>if done then[]else[(name,ino)]
 |done,e::r=>
   (if !done&& !strLt e.1 name then[(name,ino)]else[])++((if e.1=name then[]else[e])++entGo name ino (done|| !strLt e.1 name) r)
def entL(es:List Ent)(name:Str)(ino:Int):List Ent:=entGo name ino (ino==0) es
def cntE(ino:Int)(es:List Ent):Nat:=es.countP fun e:Ent=>e.2==ino
def cntN(ino:Int)(ns:List Nod):Nat:=cntE ino (ns.flatMap fun n=>n.entries)
def linksF(f:Fls)(at_:Fil):Nat:=
 match nodeL f at_,atI f at_.1 with
 |some _,some d=>cntN at_.2 d.nodes
 |_,_=>0
theorem cntE_snoc{ino:Int}{es:List Ent}{k:Nat}{e:Ent}(h:es[k]?=some e):cntE ino (es.take (k+1))=cntE ino (es.take k)+(if e.2==ino then 1 else 0):=by
 unfold cntE
 rw[List.take_add_one,h,List.countP_append]
 simp[List.countP_cons]
theorem cntE_le(ino:Int)(es:List Ent):cntE ino es≤es.length:=List.countP_le_length
theorem cntN_snoc{ino:Int}{ns:List Nod}{m:Nat}{n:Nod}(h:ns[m]?=some n):cntN ino (ns.take (m+1))=cntN ino (ns.take m)+cntE ino n.entries:=by
 unfold cntN cntE
 rw[List.take_add_one,h,List.flatMap_append,List.countP_append]
 simp
def keepNot(ino:Int)(ns:List Nod):List Nod:=ns.filter fun n=>n.ino != ino
def rootNod:Nod:=⟨1,2,493,0,0,1,⟨#[]⟩,[]⟩
def rootDvc:Dvc:=⟨2,[rootNod]⟩
def newL(n:Int):Fls×Int:=if n<1∨3<n then([],50)else(List.replicate n.toNat rootDvc,0)
abbrev ChgRes:=Fls×List Chg×Int
def mkNod(n:Nod)(next dirIno:Int):Nod:=⟨next,n.kind,n.mode,n.uid,n.gid,if n.kind=2 then dirIno else 0,n.target,[]⟩
end Go.Proofs.YtbglbmnhgbgelaaGreatDoor
namespace Go.Proofs.YtbglbmnhgbgelaaGreatDoor
open Go.RowKit
theorem row_at{α:Type}(enc:α→List AV){l:List α}{k:Nat}(h:(k:Int)<((l.map enc).length:Int)):k<l.length∧∃x,l[k]?=some x∧(l.map enc)[k]?=some (enc x)∧(l.take (k+1)).map enc=(l.take k).map enc++[enc x]:=by
 have hk:k<l.length:=by simpa using h
 refine⟨hk,l[k],List.getElem?_eq_getElem hk,by simp[hk],?_⟩
 rw[List.take_succ_eq_append_getElem hk,List.map_append]
 rfl
theorem row_no{α:Type}(enc:α→List AV){l:List α}{k:Nat}(hk:k≤l.length)(h:¬(k:Int)<((l.map enc).length:Int)):k=l.length:=by
 simp at h
 omega
theorem vb{a b:Bool}(h:a=b):AV.v (.bool a)=AV.v (.bool b):=by rw[h]
theorem vi{k:IntKind}{a b:Int}(h:a=b):AV.v (.int k a)=AV.v (.int k b):=by rw[h]
def filA(x:Fil):List AV:=[.v (.int .i64 x.1), .v (.int .i64 x.2)]
def entA(e:Ent):List AV:=[.v (.string e.1), .v (.int .i64 e.2)]
def nodA(n:Nod):List AV:=[.v (.int .i64 n.ino), .v (.int .i64 n.kind), .v (.int .i64 n.mode), .v (.int .i64 n.uid), .v (.int .i64 n.gid), .v (.int .i64 n.parent), .v (.string n.target), .sl 2 (n.entries.map entA) none]
def dvcA(d:Dvc):List AV:=[.v (.int .i64 d.next), .sl 8 (d.nodes.map nodA) none]
def flsA(f:Fls):List AV:=[.sl 2 (f.map dvcA) none]
structure FlsB(f:Fls):Prop where
 few:f.length≤1000
 nodes:∀d∈f,d.nodes.length≤1000
 ents:∀d∈f,∀n∈d.nodes,n.entries.length≤1000
theorem indexL_at{f:Fls}{a:Fil}{k:Nat}{d:Dvc}(hk:a.1=(k:Int))(hd:f[k]?=some d):indexL f a=idxBy (fun n:Nod=>n.ino==a.2) d.nodes:=by
 unfold indexL;rw[hk,atI_nat,hd]
def nodG(f:Fls)(a:Fil):Nod:=(nodeL f a).getD Nod.zero
def hasG(f:Fls)(a:Fil):Bool:=(nodeL f a).isSome
theorem dirL_eq(f:Fls)(a:Fil):dirL f a=(hasG f a&&decide ((nodG f a).kind=2)):=by
 unfold dirL hasG nodG
 cases nodeL f a<;>simp[beq_dec]
theorem nodG_ents{f:Fls}(hf:FlsB f)(a:Fil):(nodG f a).entries.length≤1000:=by
 rcases index_node f a with⟨-,h⟩|⟨k,i,d,n, -,h1,h2, -, -,h⟩
 ·simp[nodG,h,Nod.zero]
 simp only[nodG,h,Option.getD_some]
 exact hf.ents d (List.mem_of_getElem? h1) n (List.mem_of_getElem? h2)
section
set_option maxRecDepth 10000
set_option maxHeartbeats 1000000
theorem Rindex(f:Fls)(a:Fil)(hf:FlsB f):AFn Tryz.prog 78 [.agg (flsA f), .agg (filA a)] (fun r=>r= .v (.int .i64 (indexL f a))):=by
 refine enter Tryz.func78 rfl rfl rfl rfl rfl 0 rfl ?_
 refine w_ (b_ (h:=b_ (h:=a_ (h:=e_ (q_ (w_ (f_ (h:=l_ (h:=lt_ (h:=m_ (h:=?_)))))))))))
 refine al_gs false rfl rfl (fun hb1=>?_) (fun hb1=>?_)
 ·have hc1:=bp hb1
  refine g0_ (h:=g0_ (h:=g0_ (h:=g0_ (h:=g0_ (h:=g0_ (h:=pt_ (h:=e_ (cy_ (h:=w_ (a_ (h:=e_ (aw_ret (x_thenR (?_))))))))))))))
  refine e_ret ?_
  exact vi (by unfold indexL;rw[atI_none (.inl hc1)])
 have hc1:=bp hb1
 refine f_ (h:=l_ (h:=f_ (h:=l_ (h:=n_ (h:=ge_ (h:=pf_ (h:=e_ (?_))))))))
 refine aw_cond rfl (fun hb2=>?_) (fun hb2=>?_)
 ·have hc2:=bp hb2
  refine w_ (a_ (h:=e_ (aw_ret (x_thenR (?_)))))
  refine e_ret ?_
  exact vi (by unfold indexL;rw[atI_none (.inr (by rw[List.length_map]at hc2;exact hc2))])
 have hc2:=bp hb2
 obtain⟨k,hk⟩:=Int.eq_ofNat_of_zero_le (show 0≤a.1 by omega)
 rw[hk]at hc2
 obtain⟨-,d,hd,hrow, -⟩:=row_at dvcA (l:=f) (k:=k) (by omega)
 have hdn:=hf.nodes d (List.mem_of_getElem? hd)
 refine kt_ (w_ (f_ (h:=l_ (h:=f_ (h:=l_ (h:=?_))))))
 refine al_p rfl (st_index (n:=k) rfl rfl hk hrow ?_)
 refine f_ (h:=l_ (h:=a_ (h:=e_ (q_ (w_ (a_ (h:=e_ (aw_block (?_)))))))))
 refine aw_loopW (fun m s=>∃j:Nat,j≤d.nodes.length∧m=d.nodes.length - j∧(∀i y,i<j→d.nodes[i]?=some y→(y.ino==a.2)=false)∧s=⟨look [(3, .bp 1 0),(5, .sl 8 (d.nodes.map nodA) none),(6, .v (.int .i64 (j:Int)))],⟨[flsA f,filA a],[]⟩⟩) (d.nodes.length) ((wk 2 0)) (⟨0,by omega,rfl,fun i y hi=>by omega,rfl⟩) ?_
 rintro m s ⟨j,hj,rfl,ha,rfl⟩
 refine q_ (w_ (m_ (h:=m_ (h:=n_ (h:=lt_ (h:=e_ (?_)))))))
 refine aw_cond rfl (fun hb3=>?_) (fun hb3=>?_)
 ·have hc3:=bp hb3
  obtain⟨hlt,n,hy,hrow2, -⟩:=row_at nodA hc3
  refine kt_ (q_ (aw_block (q_ (yr_ 8 (h:=dm_ 0 (h:=dm_ 1 (h:=di_ 2 (h:=df_ 3 (h:=dl_ 4 (h:=df_ 5 (h:=dl_ 6 (h:=deq_ 7 (h:=z_ (h:=t_ (?_)))))))))))))))
  refine aw_cond rfl (fun hb4=>?_) (fun hb4=>?_)
  ·have hc4:=bp hb4
   refine w_ (m_ (h:=a_ (h:=e_ (aw_ret (x_blockR (x_thenR (x_thenR (x_blockR (x_thenR (?_))))))))))
   refine e_ret ?_
   exact vi (by rw[indexL_at hk hd];exact(idxBy_first hy (by simpa using hc4) ha).symm)
  have hc4:=bp hb4
  refine aw_skip (x_blockN (t_ (aw_region (m_ (h:=ad_ (h:=a_ (h:=al_nil (?_))))))))
  refine x_then ?_
  refine⟨_,_,?_,⟨j+1,by omega,rfl,upto_snoc hy ha (by simpa using hc4),rfl⟩,(wk 2 0)⟩
  omega
 have hc3:=bp hb3
 have e:=row_no nodA hj hc3
 subst e
 refine aw_exit (x_thenE (x_thenE (ABlock_out (t_ (w_ (a_ (h:=e_ (aw_ret (?_)))))))))
 refine e_ret ?_
 exact vi (by rw[indexL_at hk hd];exact(idxBy_none (fun i y hi hy=>ha i y hi hy)).symm)
theorem Rnode(f:Fls)(a:Fil)(hf:FlsB f):AFn Tryz.prog 70 [.agg (flsA f), .agg (filA a)] (fun r=>r= .tup [.agg (nodA (nodG f a)), .v (.bool (hasG f a))]):=by
 refine enter Tryz.func70 rfl rfl rfl rfl rfl 0 rfl ?_
 refine w_ (b_ (h:=b_ (h:=al_ (h:=a_ (h:=e_ (w_ (l_ (h:=l_ (h:=?_)))))))))
 refine al_p rfl (q_call (Rindex f a hf) ?_)
 rintro r rfl
 refine a_ (h:=e_ (q_ (w_ (m_ (h:=lt_ (h:=e_ (?_)))))))
 refine aw_cond rfl (fun hb1=>?_) (fun hb1=>?_)
 ·have hc1:=bp hb1
  have e:nodeL f a=none:=by
   rcases index_node f a with h|⟨k,i,d,n, -, -, -, -,h, -⟩
   ·exact h.2
   exfalso;omega
  refine w_ (bd_ (h:=s_ (h:=a_ (h:=e_ (aw_ret (x_thenR (?_)))))))
  refine rt_ (r:= .tup [.agg (nodA (nodG f a)), .v (.bool (hasG f a))]) none (h5:=?_) (h6:=⟨rfl,rfl,rfl⟩)
  rw[show nodG f a=Nod.zero by simp[nodG,e],show hasG f a=false by simp[hasG,e]]
  exact(by repeat (first|exact LeA.refl _|exact LeA.nil _|exact LeL.refl _|refine LeA.agg ?_|refine LeA.tup ?_|exact LeL.nil|refine LeL.cons ?_ ?_|exact LeA.any _))
 have hc1:=bp hb1
 obtain⟨k,i,d,n,g1,g2,g3,g4,g5,g6⟩:=(index_node f a).resolve_left (fun h=>by omega)
 rw[g5]
 have hr1:(f.map dvcA)[k]?=some (dvcA d):=by rw[List.getElem?_map,g2];rfl
 have hr2:(d.nodes.map nodA)[i]?=some (nodA n):=by rw[List.getElem?_map,g3];rfl
 have hen:=hf.ents d (List.mem_of_getElem? g2) n (List.mem_of_getElem? g3)
 refine kt_ (w_ (f_ (h:=l_ (h:=f_ (h:=l_ (h:=?_))))))
 refine al_p rfl (st_index (n:=k) rfl rfl g1 hr1 ?_)
 refine f_ (h:=l_ (h:=m_ (h:=?_)))
 refine al_p rfl (st_index (n:=i) rfl rfl rfl hr2 ?_)
 refine l_ (h:=al_ (h:=s_ (h:=e_ (w_ (f_ (h:=l_ (h:=?_)))))))
 first|refine al_p rfl (s_append rfl rfl rfl (by simp;omega) (by repeat constructor) ?_)|refine al_p rfl (s_append0 rfl rfl (by simp;omega) (by repeat constructor) ?_)
 refine f_ (h:=s_ (h:=e_ (w_ (l_ (h:=s_ (h:=a_ (h:=e_ (aw_ret (?_)))))))))
 refine e_ret ?_
 rw[show nodG f a=n by simp[nodG,g6],show hasG f a=true by simp[hasG,g6]]
 rfl
theorem Rdir(f:Fls)(a:Fil)(hf:FlsB f):AFn Tryz.prog 41 [.agg (flsA f), .agg (filA a)] (fun r=>r= .v (.bool (dirL f a))):=by
 refine enter Tryz.func41 rfl rfl rfl rfl rfl 0 rfl ?_
 refine w_ (b_ (h:=b_ (h:=a_ (h:=e_ (w_ (l_ (h:=l_ (h:=?_))))))))
 refine al_p rfl (q_call (Rnode f a hf) ?_)
 rintro r rfl
 refine m_ (h:=x_ (h:=x_ (h:=al_ (h:=s_ (h:=a_ (h:=e_ (w_ (m_ (h:=m_ (h:=?_))))))))))
 refine al_gs true rfl rfl (fun hb1=>?_) (fun hb1=>?_)
 ·have hc1:=bp hb1
  refine f_ (h:=l_ (h:=eq_ (h:=pt_ (h:=a_ (h:=e_ (aw_ret (?_)))))))
  refine e_ret ?_
  exact vb (by rw[dirL_eq];simp[*])
 have hc1:=bp hb1
 refine g0_ (h:=g0_ (h:=g0_ (h:=pf_ (h:=a_ (h:=e_ (aw_ret (?_)))))))
 refine e_ret ?_
 exact vb (by rw[dirL_eq];simp[*])
end
theorem find_at{α:Type}{p:α→Bool}{l:List α}{j:Nat}{x:α}(hx:l[j]?=some x)(hp:p x=true)(h:∀i y,i<j→l[i]?=some y→p y=false):l.find? p=some x:=by
 have:=findIdx?_first hx hp h
 rw[←find?_of_findIdx?,this]
 simpa using hx
theorem find_no{α:Type}{p:α→Bool}{l:List α}(h:∀i y,i<l.length→l[i]?=some y→p y=false):l.find? p=none:=by
 rw[List.find?_eq_none]
 intro x hx
 obtain⟨i,hi,rfl⟩:=List.mem_iff_getElem.1 hx
 simp[h i _ hi (List.getElem?_eq_getElem hi)]
theorem has_some{f:Fls}{a:Fil}(h:hasG f a=true):nodeL f a=some (nodG f a):=by
 unfold hasG at h
 unfold nodG
 cases hn:nodeL f a with
 |none=>rw[hn]at h;cases h
 |some n=>rfl
theorem has_none{f:Fls}{a:Fil}(h:hasG f a=false):nodeL f a=none:=by
 unfold hasG at h
 cases hn:nodeL f a with
 |none=>rfl
 |some n=>rw[hn]at h;cases h
section
set_option maxRecDepth 10000
set_option maxHeartbeats 1000000
theorem Rlook(f:Fls)(a:Fil)(name:Str)(hf:FlsB f):AFn Tryz.prog 38 [.agg (flsA f), .agg (filA a), .v (.string name)] (fun r=>r= .tup [.agg (filA (lookL f a name).1), .v (.int .i64 (lookL f a name).2)]):=by
 have hen:=nodG_ents hf a
 refine enter Tryz.func38 rfl rfl rfl rfl rfl 0 rfl ?_
 refine w_ (b_ (h:=b_ (h:=al_ (h:=a_ (h:=e_ (w_ (l_ (h:=l_ (h:=?_)))))))))
 refine al_p rfl (q_call (Rnode f a hf) ?_)
 rintro r rfl
 refine m_ (h:=x_ (h:=x_ (h:=al_ (h:=s_ (h:=a_ (h:=e_ (q_ (w_ (m_ (h:=nt_ (h:=e_ (?_))))))))))))
 refine aw_cond rfl (fun hb1=>?_) (fun hb1=>?_)
 ·have hc1:=bp hb1
  have e:=has_none hc1
  refine w_ (bd_ (h:=s_ (h:=a_ (h:=e_ (aw_ret (x_thenR (?_)))))))
  refine e_ret ?_
  rw[show lookL f a name=((0,0),2) by simp[lookL,e]]
  rfl
 have hc1:=bp hb1
 have e:=has_some hc1
 refine kt_ (q_ (w_ (f_ (h:=l_ (h:=nq_ (h:=e_ (?_)))))))
 refine aw_cond rfl (fun hb2=>?_) (fun hb2=>?_)
 ·have hc2:=bp hb2
  refine w_ (bd_ (h:=s_ (h:=a_ (h:=e_ (aw_ret (x_thenR (?_)))))))
  refine e_ret ?_
  rw[show lookL f a name=((0,0),20) by simp[lookL,e,hc2]]
  rfl
 have hc2:=bp hb2
 refine kt_ (q_ (w_ (a_ (h:=e_ (aw_block (?_))))))
 refine aw_loopW (fun m s=>∃j:Nat,j≤(nodG f a).entries.length∧m=(nodG f a).entries.length - j∧(∀i y,i<j→(nodG f a).entries[i]?=some y→decide (y.1=name)=false)∧s=⟨look [(2, .v (.string name)),(4, .bp 1 0),(6, .bp 2 0),(8, .bp 3 0),(10, .v (.int .i64 (j:Int)))],⟨[flsA f,filA a,[.v (.int .i64 0), .v (.int .i64 0)],nodA (nodG f a)],[]⟩⟩) ((nodG f a).entries.length) ((wk 4 0)) (⟨0,by omega,rfl,fun i y hi=>by omega,rfl⟩) ?_
 rintro m s ⟨j,hj,rfl,ha,rfl⟩
 refine q_ (w_ (m_ (h:=f_ (h:=l_ (h:=n_ (h:=lt_ (h:=e_ (?_))))))))
 refine aw_cond rfl (fun hb3=>?_) (fun hb3=>?_)
 ·have hc3:=bp hb3
  obtain⟨hlt,x,hy,hrow, -⟩:=row_at entA hc3
  refine kt_ (q_ (aw_block (w_ (f_ (h:=l_ (h:=m_ (h:=i_ (h:=f_ (h:=l_ (h:=m_ (h:=eq_ (h:=e_ (?_)))))))))))))
  refine aw_cond rfl (fun hb4=>?_) (fun hb4=>?_)
  ·have hc4:=bp hb4
   refine q_ (yk_ ([(0,flsA f),(1,filA a),(3,nodA (nodG f a))]) 11 (h:=df_ 0 (h:=dl_ 1 (h:=df_ 2 (h:=dl_ 3 (h:=dm_ 4 (h:=di_ 5 (h:=df_ 6 (h:=dl_ 7 (h:=dbd_ 8 (h:=?_)))))))))))
   refine c0_ 9 rfl (s_store rfl rfl rfl rfl rfl rfl (by repeat constructor) (by repeat constructor) ?_)
   refine o_ (h:=da_ 10 (h:=z_ (h:=t_ (aw_ret (x_blockR (x_thenR (x_thenR (x_blockR (x_thenR (?_))))))))))
   refine e_ret ?_
   rw[show lookL f a name=((a.1,x.2),0) by simp only[lookL,e];rw[if_pos (by omega),find_at hy (by simpa using hc4) ha]]
   rfl
  have hc4:=bp hb4
  refine aw_skip (x_blockN (t_ (aw_region (m_ (h:=ad_ (h:=a_ (h:=al_nil (?_))))))))
  refine x_then ?_
  refine⟨_,_,?_,⟨j+1,by omega,rfl,upto_snoc hy ha (by simpa using hc4),rfl⟩,(wk 4 0)⟩
  omega
 have hc3:=bp hb3
 have e3:=row_no entA hj hc3
 subst e3
 refine aw_exit (x_thenE (x_thenE (ABlock_out (t_ (w_ (bd_ (h:=s_ (h:=a_ (h:=e_ (aw_ret (?_)))))))))))
 refine e_ret ?_
 rw[show lookL f a name=((0,0),2) by simp only[lookL,e];rw[if_pos (by omega),find_no ha]]
 rfl
end
theorem st_strIdx{P:Program}{ev:Operand→Option AV}{h:AH}{R:AV→AH→Prop}{d:Option Tmp}{ty:TypeId}{pos:String}{af:Array Edge}{gd:Option (Nat×Bool)}{T:TypeId}{x ix:Operand}{s:ByteArray}{n:Nat}{k:IntKind}{i:Int}(hu:P.underlying T=some .string)
    (hx:ev x=some (.v (.string s))) (hi:ev ix=some (.v (.int k i))) (hn:i=(n:Int)) (hlt:n<s.size) (hR:R (.v (.int .u8 (s[n].toNat:Int))) h):AStep P ⟨d, .index T x ix,ty,pos,af,gd⟩ ev h R:=by
 refine st_val (fun _ G w ec _ he=>?_) hR
 have h1:=he x (by simp[Op.operands]) _ hx
 have h2:=he ix (by simp[Op.operands]) _ hi
 simp only[rep]at h1 h2
 subst hn
 refine⟨.int .u8 (s[n].toNat:Int),?_,by simp only[rep]⟩
 have e:s[n]?=some s[n]:=getElem?_pos s n hlt
 simp[execOp,h1,h2,Instr.index,asIntOf,run_underlying hu,e]
theorem name_eq(s:Str):nameL s=if s.size<1∨12<s.size then false else if s=⟨#[46]⟩then false else if s=⟨#[46,46]⟩then false else s.data.toList.all byteOK:=by
 unfold nameL
 have e1:=str_eq s ⟨#[46]⟩
 have e2:=str_eq s ⟨#[46,46]⟩
 rw[show(⟨#[46]⟩:ByteArray).toList=[46] by rw[ByteArray.toList_eq]]at e1
 rw[show(⟨#[46,46]⟩:ByteArray).toList=[46,46] by rw[ByteArray.toList_eq]]at e2
 rw[e1,e2]
 simp only[decide_eq_true_eq]
theorem byte_ok{c:UInt8}(h1:¬(c.toNat:Int)=0)(h2:¬(c.toNat:Int)=47):byteOK c=true:=by
 unfold byteOK;simp;omega
section
set_option maxRecDepth 10000
set_option maxHeartbeats 1000000
theorem Rname(s:Str)(hs:s.size≤100000):AFn Tryz.prog 61 [.v (.string s)] (fun r=>r= .v (.bool (nameL s))):=by
 refine enter Tryz.func61 rfl rfl rfl rfl rfl 0 rfl ?_
 refine w_ (a_ (h:=e_ (q_ (w_ (m_ (h:=n_ (h:=lt_ (h:=m_ (h:=?_)))))))))
 refine al_gs false rfl rfl (fun hb1=>?_) (fun hb1=>?_)
 ·have hc1:=bp hb1
  refine g0_ (h:=g0_ (h:=g0_ (h:=pt_ (h:=m_ (h:=g0_ (h:=g0_ (h:=pt_ (h:=m_ (h:=g0_ (h:=g0_ (h:=pt_ (h:=e_ (cy_ (h:=w_ (a_ (h:=e_ (aw_ret (x_thenR (?_)))))))))))))))))))
  refine e_ret ?_
  exact vb (by rw[name_eq,if_pos (by omega)])
 have hc1:=bp hb1
 refine m_ (h:=n_ (h:=gt_ (h:=pf_ (h:=m_ (h:=?_)))))
 refine al_gs false rfl rfl (fun hb2=>?_) (fun hb2=>?_)
 ·have hc2:=bp hb2
  refine g0_ (h:=g0_ (h:=pt_ (h:=m_ (h:=g0_ (h:=g0_ (h:=pt_ (h:=e_ (cy_ (h:=w_ (a_ (h:=e_ (aw_ret (x_thenR (?_))))))))))))))
  refine e_ret ?_
  exact vb (by rw[name_eq,if_pos (by omega)])
 have hc2:=bp hb2
 refine m_ (h:=eq_ (h:=pf_ (h:=m_ (h:=?_))))
 refine al_gs false rfl rfl (fun hb3=>?_) (fun hb3=>?_)
 ·have hc3:=bp hb3
  refine g0_ (h:=g0_ (h:=pt_ (h:=e_ (cy_ (h:=w_ (a_ (h:=e_ (aw_ret (x_thenR (?_))))))))))
  refine e_ret ?_
  exact vb (by rw[name_eq,if_neg (by omega),if_pos hc3])
 have hc3:=bp hb3
 refine m_ (h:=eq_ (h:=pf_ (h:=e_ (?_))))
 refine aw_cond rfl (fun hb4=>?_) (fun hb4=>?_)
 ·have hc4:=bp hb4
  refine w_ (a_ (h:=e_ (aw_ret (x_thenR (?_)))))
  refine e_ret ?_
  exact vb (by rw[name_eq,if_neg (by omega),if_neg hc3,if_pos hc4])
 have hc4:=bp hb4
 refine kt_ (q_ (w_ (a_ (h:=e_ (aw_block (?_))))))
 refine aw_loopW (fun m t=>∃j:Nat,j≤s.size∧m=s.size - j∧(∀i (hi:i<s.size),i<j→byteOK s[i]=true)∧t=⟨look [(0, .v (.string s)),(3, .v (.int .i64 (j:Int)))],⟨[],[]⟩⟩) (s.size) ((wk 0 0)) (⟨0,by omega,rfl,fun i _ hi=>by omega,rfl⟩) ?_
 rintro m t ⟨j,hj,rfl,ha,rfl⟩
 refine q_ (w_ (m_ (h:=m_ (h:=n_ (h:=lt_ (h:=e_ (?_)))))))
 refine aw_cond rfl (fun hb5=>?_) (fun hb5=>?_)
 ·have hc5:=bp hb5
  have hlt:j<s.size:=by omega
  refine kt_ (q_ (aw_block (w_ (m_ (h:=m_ (h:=?_))))))
  refine al_p rfl (st_strIdx (n:=j) Tryz.underlying9 rfl rfl rfl hlt ?_)
  refine eq_ (h:=m_ (h:=?_))
  refine al_gs false rfl rfl (fun hb6=>?_) (fun hb6=>?_)
  ·have hc6:=bp hb6
   refine g0_ (h:=g0_ (h:=g0_ (h:=g0_ (h:=pt_ (h:=e_ (cy_ (h:=w_ (a_ (h:=e_ (aw_ret (x_blockR (x_thenR (x_thenR (x_blockR (x_thenR (?_))))))))))))))))
   refine e_ret ?_
   exact vb (by rw[name_eq,if_neg (by omega),if_neg hc3,if_neg hc4,all_not hlt (by unfold byteOK;simp[hc6])])
  have hc6:=bp hb6
  refine m_ (h:=m_ (h:=?_))
  refine g_y (st_strIdx (n:=j) Tryz.underlying9 rfl rfl rfl hlt ?_)
  refine eq_ (h:=pf_ (h:=e_ (?_)))
  refine aw_cond rfl (fun hb7=>?_) (fun hb7=>?_)
  ·have hc7:=bp hb7
   refine w_ (a_ (h:=e_ (aw_ret (x_blockR (x_thenR (x_thenR (x_blockR (x_thenR (?_)))))))))
   refine e_ret ?_
   exact vb (by rw[name_eq,if_neg (by omega),if_neg hc3,if_neg hc4,all_not hlt (by unfold byteOK;simp[hc7])])
  have hc7:=bp hb7
  refine aw_skip (x_blockN (t_ (aw_region (m_ (h:=ad_ (h:=a_ (h:=al_nil (?_))))))))
  refine x_then ?_
  refine⟨_,_,?_,⟨j+1,by omega,rfl,bytes_snoc hlt ha (byte_ok hc6 hc7),rfl⟩,(wk 0 0)⟩
  omega
 have hc5:=bp hb5
 obtain rfl:j=s.size:=by omega
 refine aw_exit (x_thenE (x_thenE (ABlock_out (t_ (w_ (a_ (h:=e_ (aw_ret (?_)))))))))
 refine e_ret ?_
 exact vb (by rw[name_eq,if_neg (by omega),if_neg hc3,if_neg hc4,all_upto (fun i hi=>ha i hi hi)])
end
theorem fullL_eq(f:Fls)(a:Fil):fullL f a=decide (12≤(nodG f a).entries.length):=by
 unfold fullL nodG
 cases nodeL f a<;>simp[Nod.zero]
theorem emptyL_eq(f:Fls)(a:Fil):emptyL f a=decide ((nodG f a).entries.length=0):=by
 unfold emptyL nodG
 cases nodeL f a<;>simp[Nod.zero]
theorem linksF_at{f:Fls}{a:Fil}{k:Nat}{d:Dvc}{n:Nod}(hk:a.1=(k:Int))(hd:f[k]?=some d)(hn:nodeL f a=some n):linksF f a=cntN a.2 d.nodes:=by
 unfold linksF
 rw[hn,hk,atI_nat,hd]
section
set_option maxRecDepth 10000
set_option maxHeartbeats 1000000
theorem Rtarget(s:Str)(hs:s.size≤100000):AFn Tryz.prog 125 [.v (.string s)] (fun r=>r= .v (.bool (targetL s))):=by
 refine enter Tryz.func125 rfl rfl rfl rfl rfl 0 rfl ?_
 refine w_ (a_ (h:=e_ (q_ (w_ (a_ (h:=e_ (aw_block (?_))))))))
 refine aw_loopW (fun m t=>∃j:Nat,j≤s.size∧m=s.size - j∧(∀i (hi:i<s.size),i<j→(!((s[i].toNat:Int)==0))=true)∧t=⟨look [(0, .v (.string s)),(3, .v (.int .i64 (j:Int)))],⟨[],[]⟩⟩) (s.size) ((wk 0 0)) (⟨0,by omega,rfl,fun i _ hi=>by omega,rfl⟩) ?_
 rintro m t ⟨j,hj,rfl,ha,rfl⟩
 refine q_ (w_ (m_ (h:=m_ (h:=n_ (h:=lt_ (h:=e_ (?_)))))))
 refine aw_cond rfl (fun hb1=>?_) (fun hb1=>?_)
 ·have hc1:=bp hb1
  have hlt:j<s.size:=by omega
  refine kt_ (q_ (aw_block (w_ (m_ (h:=m_ (h:=?_))))))
  refine al_p rfl (st_strIdx (n:=j) Tryz.underlying9 rfl rfl rfl hlt ?_)
  refine eq_ (h:=e_ (?_))
  refine aw_cond rfl (fun hb2=>?_) (fun hb2=>?_)
  ·have hc2:=bp hb2
   refine w_ (a_ (h:=e_ (aw_ret (x_blockR (x_thenR (x_thenR (x_blockR (x_thenR (?_)))))))))
   refine e_ret ?_
   exact vb (by unfold targetL;rw[all_not hlt (by simp[hc2])];simp)
  have hc2:=bp hb2
  refine aw_skip (x_blockN (t_ (aw_region (m_ (h:=ad_ (h:=a_ (h:=al_nil (?_))))))))
  refine x_then ?_
  refine⟨_,_,?_,⟨j+1,by omega,rfl,bytes_snoc (p:=fun c=> !((c.toNat:Int)==0)) hlt ha (by simpa using hc2),rfl⟩,(wk 0 0)⟩
  omega
 have hc1:=bp hb1
 obtain rfl:j=s.size:=by omega
 have hal:=all_upto (p:=fun c=> !((c.toNat:Int)==0)) (fun i hi=>ha i hi hi)
 refine aw_exit (x_thenE (x_thenE (ABlock_out (t_ (w_ (m_ (h:=n_ (h:=ge_ (h:=m_ (h:=?_))))))))))
 refine al_gs true rfl rfl (fun hb3=>?_) (fun hb3=>?_)
 ·have hc3:=bp hb3
  refine m_ (h:=n_ (h:=le_ (h:=pt_ (h:=a_ (h:=e_ (aw_ret (?_)))))))
  refine e_ret ?_
  exact vb (by unfold targetL;rw[hal,Bool.eq_iff_iff];simp;omega)
 have hc3:=bp hb3
 refine g0_ (h:=g0_ (h:=g0_ (h:=pf_ (h:=a_ (h:=e_ (aw_ret (?_)))))))
 refine e_ret ?_
 exact vb (by unfold targetL;rw[hal,Bool.eq_iff_iff];simp;omega)
theorem Rplace(f:Fls)(a:Fil)(name:Str)(hf:FlsB f)(hs:name.size≤100000):AFn Tryz.prog 71 [.agg (flsA f), .agg (filA a), .v (.string name)] (fun r=>r= .v (.int .i64 (placeL f a name))):=by
 refine enter Tryz.func71 rfl rfl rfl rfl rfl 0 rfl ?_
 refine w_ (b_ (h:=b_ (h:=a_ (h:=e_ (w_ (l_ (h:=l_ (h:=?_))))))))
 refine al_p rfl (q_call (Rnode f a hf) ?_)
 rintro r rfl
 refine m_ (h:=x_ (h:=x_ (h:=al_ (h:=s_ (h:=a_ (h:=e_ (q_ (w_ (m_ (h:=nt_ (h:=e_ (?_))))))))))))
 refine aw_cond rfl (fun hb1=>?_) (fun hb1=>?_)
 ·have hc1:=bp hb1
  have e:=has_none hc1
  refine w_ (a_ (h:=e_ (aw_ret (x_thenR (?_)))))
  refine e_ret ?_
  exact vi (by simp[placeL,e])
 have hc1:=bp hb1
 have e:=has_some hc1
 refine kt_ (q_ (w_ (f_ (h:=l_ (h:=nq_ (h:=e_ (?_)))))))
 refine aw_cond rfl (fun hb2=>?_) (fun hb2=>?_)
 ·have hc2:=bp hb2
  refine w_ (a_ (h:=e_ (aw_ret (x_thenR (?_)))))
  refine e_ret ?_
  exact vi (by simp[placeL,e,hc2])
 have hc2:=bp hb2
 refine kt_ (q_ (w_ (m_ (h:=?_))))
 refine al_p rfl (q_call (Rname name hs) ?_)
 rintro r rfl
 refine nt_ (h:=e_ (?_))
 refine aw_cond rfl (fun hb3=>?_) (fun hb3=>?_)
 ·have hc3:=bp hb3
  refine w_ (a_ (h:=e_ (aw_ret (x_thenR (?_)))))
  refine e_ret ?_
  exact vi (by simp only[placeL,e];rw[if_pos (by omega),hc3];rfl)
 have hc3:=bp hb3
 refine kt_ (w_ (a_ (h:=e_ (aw_ret (?_)))))
 refine e_ret ?_
 exact vi (by simp only[placeL,e];rw[if_pos (by omega),hc3];rfl)
theorem Rfull(f:Fls)(a:Fil)(hf:FlsB f):AFn Tryz.prog 75 [.agg (flsA f), .agg (filA a)] (fun r=>r= .v (.bool (fullL f a))):=by
 refine enter Tryz.func75 rfl rfl rfl rfl rfl 0 rfl ?_
 refine w_ (b_ (h:=b_ (h:=a_ (h:=e_ (w_ (l_ (h:=l_ (h:=?_))))))))
 refine al_p rfl (q_call (Rnode f a hf) ?_)
 rintro r rfl
 refine m_ (h:=x_ (h:=x_ (h:=al_ (h:=s_ (h:=a_ (h:=e_ (w_ (f_ (h:=l_ (h:=n_ (h:=ge_ (h:=a_ (h:=e_ (aw_ret (?_)))))))))))))))
 refine e_ret ?_
 exact vb (by rw[fullL_eq,Bool.eq_iff_iff];simp;omega)
theorem Rempty(f:Fls)(a:Fil)(hf:FlsB f):AFn Tryz.prog 74 [.agg (flsA f), .agg (filA a)] (fun r=>r= .v (.bool (emptyL f a))):=by
 refine enter Tryz.func74 rfl rfl rfl rfl rfl 0 rfl ?_
 refine w_ (b_ (h:=b_ (h:=a_ (h:=e_ (w_ (l_ (h:=l_ (h:=?_))))))))
 refine al_p rfl (q_call (Rnode f a hf) ?_)
 rintro r rfl
 refine m_ (h:=x_ (h:=x_ (h:=al_ (h:=s_ (h:=a_ (h:=e_ (w_ (f_ (h:=l_ (h:=n_ (h:=eq_ (h:=a_ (h:=e_ (aw_ret (?_)))))))))))))))
 refine e_ret ?_
 exact vb (by rw[emptyL_eq,Bool.eq_iff_iff];simp)
theorem Rplain(n:Nod)(hs:n.target.size≤100000):AFn Tryz.prog 86 [.agg (nodA n)] (fun r=>r= .v (.bool (plainL n))):=by
 have ee:n.target.toList.isEmpty=decide (n.target=⟨#[]⟩):=by
  rw[←str_eq n.target ⟨#[]⟩,show(⟨#[]⟩:ByteArray).toList=[] by rw[ByteArray.toList_eq]]
  cases n.target.toList<;>rfl
 refine enter Tryz.func86 rfl rfl rfl rfl rfl 0 rfl ?_
 refine w_ (b_ (h:=a_ (h:=e_ (q_ (?_)))))
 refine aw_mid (⟨look [(1, .bp 0 0),(40, .v (.bool (decide (n.kind<1∨3<n.kind∨n.mode<0∨511<n.mode∨n.uid<0∨4294967295<n.uid∨n.gid<0∨4294967295<n.gid))))],⟨[nodA n],[]⟩⟩) ?_ ?_
 ·skip
  refine aw_region (f_ (h:=l_ (h:=lt_ (h:=m_ (h:=?_)))))
  refine al_gs false rfl rfl (fun hb1=>?_) (fun hb1=>?_)
  ·have hc1:=bp hb1
   refine g0_ (h:=g0_ (h:=g0_ (h:=pt_ (h:=m_ (h:=g0_ (h:=g0_ (h:=g0_ (h:=pt_ (h:=m_ (h:=g0_ (h:=g0_ (h:=g0_ (h:=pt_ (h:=m_ (h:=g0_ (h:=g0_ (h:=g0_ (h:=pt_ (h:=m_ (h:=g0_ (h:=g0_ (h:=g0_ (h:=pt_ (h:=?_))))))))))))))))))))))))
   refine m_ (h:=g0_ (h:=g0_ (h:=g0_ (h:=pt_ (h:=m_ (h:=g0_ (h:=g0_ (h:=g0_ (h:=pt_ (h:=al_nil (?_)))))))))))
   refine x_then ?_
   first|(exfalso;first|contradiction|omega)|exact weak_of 1 0 rfl rfl rfl rfl (by repeat (first|exact Sub.nil|refine Sub.cons _ _ _ rfl rfl ?_|refine Sub.any _ _ ?_|refine Sub.sl _ _ _ _ _ rfl ?_|refine Sub.slnil _ _ _ rfl ?_|(apply Sub.of;(focus exact rfl);(focus exact LeA.of_eq (vb (by rw[Bool.eq_iff_iff];simp;try omega)));(focus exact rfl))))
  have hc1:=bp hb1
  refine f_ (h:=l_ (h:=gt_ (h:=pf_ (h:=m_ (h:=?_)))))
  refine al_gs false rfl rfl (fun hb2=>?_) (fun hb2=>?_)
  ·have hc2:=bp hb2
   refine g0_ (h:=g0_ (h:=g0_ (h:=pt_ (h:=m_ (h:=g0_ (h:=g0_ (h:=g0_ (h:=pt_ (h:=m_ (h:=g0_ (h:=g0_ (h:=g0_ (h:=pt_ (h:=m_ (h:=g0_ (h:=g0_ (h:=g0_ (h:=pt_ (h:=m_ (h:=g0_ (h:=g0_ (h:=g0_ (h:=pt_ (h:=?_))))))))))))))))))))))))
   refine m_ (h:=g0_ (h:=g0_ (h:=g0_ (h:=pt_ (h:=al_nil (?_))))))
   refine x_then ?_
   first|(exfalso;first|contradiction|omega)|exact weak_of 1 0 rfl rfl rfl rfl (by repeat (first|exact Sub.nil|refine Sub.cons _ _ _ rfl rfl ?_|refine Sub.any _ _ ?_|refine Sub.sl _ _ _ _ _ rfl ?_|refine Sub.slnil _ _ _ rfl ?_|(apply Sub.of;(focus exact rfl);(focus exact LeA.of_eq (vb (by rw[Bool.eq_iff_iff];simp;try omega)));(focus exact rfl))))
  have hc2:=bp hb2
  refine f_ (h:=l_ (h:=lt_ (h:=pf_ (h:=m_ (h:=?_)))))
  refine al_gs false rfl rfl (fun hb3=>?_) (fun hb3=>?_)
  ·have hc3:=bp hb3
   refine g0_ (h:=g0_ (h:=g0_ (h:=pt_ (h:=m_ (h:=g0_ (h:=g0_ (h:=g0_ (h:=pt_ (h:=m_ (h:=g0_ (h:=g0_ (h:=g0_ (h:=pt_ (h:=m_ (h:=g0_ (h:=g0_ (h:=g0_ (h:=pt_ (h:=m_ (h:=g0_ (h:=g0_ (h:=g0_ (h:=pt_ (h:=?_))))))))))))))))))))))))
   refine al_nil (?_)
   refine x_then ?_
   first|(exfalso;first|contradiction|omega)|exact weak_of 1 0 rfl rfl rfl rfl (by repeat (first|exact Sub.nil|refine Sub.cons _ _ _ rfl rfl ?_|refine Sub.any _ _ ?_|refine Sub.sl _ _ _ _ _ rfl ?_|refine Sub.slnil _ _ _ rfl ?_|(apply Sub.of;(focus exact rfl);(focus exact LeA.of_eq (vb (by rw[Bool.eq_iff_iff];simp;try omega)));(focus exact rfl))))
  have hc3:=bp hb3
  refine f_ (h:=l_ (h:=gt_ (h:=pf_ (h:=m_ (h:=?_)))))
  refine al_gs false rfl rfl (fun hb4=>?_) (fun hb4=>?_)
  ·have hc4:=bp hb4
   refine g0_ (h:=g0_ (h:=g0_ (h:=pt_ (h:=m_ (h:=g0_ (h:=g0_ (h:=g0_ (h:=pt_ (h:=m_ (h:=g0_ (h:=g0_ (h:=g0_ (h:=pt_ (h:=m_ (h:=g0_ (h:=g0_ (h:=g0_ (h:=pt_ (h:=al_nil (?_))))))))))))))))))))
   refine x_then ?_
   first|(exfalso;first|contradiction|omega)|exact weak_of 1 0 rfl rfl rfl rfl (by repeat (first|exact Sub.nil|refine Sub.cons _ _ _ rfl rfl ?_|refine Sub.any _ _ ?_|refine Sub.sl _ _ _ _ _ rfl ?_|refine Sub.slnil _ _ _ rfl ?_|(apply Sub.of;(focus exact rfl);(focus exact LeA.of_eq (vb (by rw[Bool.eq_iff_iff];simp;try omega)));(focus exact rfl))))
  have hc4:=bp hb4
  refine f_ (h:=l_ (h:=lt_ (h:=pf_ (h:=m_ (h:=?_)))))
  refine al_gs false rfl rfl (fun hb5=>?_) (fun hb5=>?_)
  ·have hc5:=bp hb5
   refine g0_ (h:=g0_ (h:=g0_ (h:=pt_ (h:=m_ (h:=g0_ (h:=g0_ (h:=g0_ (h:=pt_ (h:=m_ (h:=g0_ (h:=g0_ (h:=g0_ (h:=pt_ (h:=al_nil (?_)))))))))))))))
   refine x_then ?_
   first|(exfalso;first|contradiction|omega)|exact weak_of 1 0 rfl rfl rfl rfl (by repeat (first|exact Sub.nil|refine Sub.cons _ _ _ rfl rfl ?_|refine Sub.any _ _ ?_|refine Sub.sl _ _ _ _ _ rfl ?_|refine Sub.slnil _ _ _ rfl ?_|(apply Sub.of;(focus exact rfl);(focus exact LeA.of_eq (vb (by rw[Bool.eq_iff_iff];simp;try omega)));(focus exact rfl))))
  have hc5:=bp hb5
  refine f_ (h:=l_ (h:=gt_ (h:=pf_ (h:=m_ (h:=?_)))))
  refine al_gs false rfl rfl (fun hb6=>?_) (fun hb6=>?_)
  ·have hc6:=bp hb6
   refine g0_ (h:=g0_ (h:=g0_ (h:=pt_ (h:=m_ (h:=g0_ (h:=g0_ (h:=g0_ (h:=pt_ (h:=al_nil (?_))))))))))
   refine x_then ?_
   first|(exfalso;first|contradiction|omega)|exact weak_of 1 0 rfl rfl rfl rfl (by repeat (first|exact Sub.nil|refine Sub.cons _ _ _ rfl rfl ?_|refine Sub.any _ _ ?_|refine Sub.sl _ _ _ _ _ rfl ?_|refine Sub.slnil _ _ _ rfl ?_|(apply Sub.of;(focus exact rfl);(focus exact LeA.of_eq (vb (by rw[Bool.eq_iff_iff];simp;try omega)));(focus exact rfl))))
  have hc6:=bp hb6
  refine f_ (h:=l_ (h:=lt_ (h:=pf_ (h:=m_ (h:=?_)))))
  refine al_gs false rfl rfl (fun hb7=>?_) (fun hb7=>?_)
  ·have hc7:=bp hb7
   refine g0_ (h:=g0_ (h:=g0_ (h:=pt_ (h:=al_nil (?_)))))
   refine x_then ?_
   first|(exfalso;first|contradiction|omega)|exact weak_of 1 0 rfl rfl rfl rfl (by repeat (first|exact Sub.nil|refine Sub.cons _ _ _ rfl rfl ?_|refine Sub.any _ _ ?_|refine Sub.sl _ _ _ _ _ rfl ?_|refine Sub.slnil _ _ _ rfl ?_|(apply Sub.of;(focus exact rfl);(focus exact LeA.of_eq (vb (by rw[Bool.eq_iff_iff];simp;try omega)));(focus exact rfl))))
  have hc7:=bp hb7
  refine f_ (h:=l_ (h:=gt_ (h:=pf_ (h:=al_nil (?_)))))
  refine x_then ?_
  first|(exfalso;first|contradiction|omega)|exact weak_of 1 0 rfl rfl rfl rfl (by repeat (first|exact Sub.nil|refine Sub.cons _ _ _ rfl rfl ?_|refine Sub.any _ _ ?_|refine Sub.sl _ _ _ _ _ rfl ?_|refine Sub.slnil _ _ _ rfl ?_|(apply Sub.of;(focus exact rfl);(focus exact LeA.of_eq (vb (by rw[Bool.eq_iff_iff];simp;try omega)));(focus exact rfl))))
 skip
 refine aw_cond rfl (fun hb8=>?_) (fun hb8=>?_)
 ·have hc8:=bp hb8
  refine w_ (a_ (h:=e_ (aw_ret (x_thenR (?_)))))
  refine e_ret ?_
  exact vb (by rw[plainL,if_pos hc8])
 have hc8:=bp hb8
 refine kt_ (q_ (w_ (f_ (h:=l_ (h:=eq_ (h:=e_ (?_)))))))
 refine aw_cond rfl (fun hb9=>?_) (fun hb9=>?_)
 ·have hc9:=bp hb9
  refine w_ (f_ (h:=l_ (h:=?_)))
  refine al_p rfl (q_call (Rtarget n.target hs) ?_)
  rintro r rfl
  refine a_ (h:=e_ (aw_ret (x_thenR (?_))))
  refine e_ret ?_
  exact vb (by rw[plainL,if_neg hc8,if_pos hc9])
 have hc9:=bp hb9
 refine kt_ (w_ (f_ (h:=l_ (h:=eq_ (h:=a_ (h:=e_ (aw_ret (?_))))))))
 refine e_ret ?_
 exact vb (by rw[plainL,if_neg hc8,if_neg hc9,ee])
theorem Rlinks(f:Fls)(a:Fil)(hf:FlsB f):AFn Tryz.prog 122 [.agg (flsA f), .agg (filA a)] (fun r=>r= .v (.int .i64 (linksF f a:Int))):=by
 refine enter Tryz.func122 rfl rfl rfl rfl rfl 0 rfl ?_
 refine w_ (b_ (h:=b_ (h:=a_ (h:=e_ (q_ (w_ (l_ (h:=l_ (h:=?_)))))))))
 refine al_p rfl (q_call (Rindex f a hf) ?_)
 rintro r rfl
 refine lt_ (h:=e_ (?_))
 refine aw_cond rfl (fun hb1=>?_) (fun hb1=>?_)
 ·have hc1:=bp hb1
  have e:nodeL f a=none:=by
   rcases index_node f a with h|⟨k,i,d,n, -, -, -, -,h, -⟩
   ·exact h.2
   exfalso;omega
  refine w_ (a_ (h:=e_ (aw_ret (x_thenR (?_)))))
  refine e_ret ?_
  exact vi (by simp[linksF,e])
 have hc1:=bp hb1
 obtain⟨k,i,d,n,g1,g2,g3,g4,g5,g6⟩:=(index_node f a).resolve_left (fun h=>by omega)
 have hr1:(f.map dvcA)[k]?=some (dvcA d):=by rw[List.getElem?_map,g2];rfl
 have hdn:=hf.nodes d (List.mem_of_getElem? g2)
 refine kt_ (w_ (a_ (h:=e_ (w_ (f_ (h:=l_ (h:=f_ (h:=l_ (h:=?_)))))))))
 refine al_p rfl (st_index (n:=k) rfl rfl g1 hr1 ?_)
 refine f_ (h:=l_ (h:=a_ (h:=e_ (q_ (w_ (a_ (h:=e_ (aw_block (?_)))))))))
 refine aw_loopW (fun m s=>∃j c:Nat,j≤d.nodes.length∧m=d.nodes.length - j∧c=cntN a.2 (d.nodes.take j)∧c≤1000 * j∧s=⟨look [(3, .bp 1 0),(5, .v (.int .i64 (c:Int))),(6, .sl 8 (d.nodes.map nodA) none),(7, .v (.int .i64 (j:Int)))],⟨[flsA f,filA a],[]⟩⟩) (d.nodes.length) ((wk 2 0)) (⟨0,0,by omega,rfl,rfl,by omega,rfl⟩) ?_
 rintro m s ⟨j,c,hj,rfl,hcn,hcb,rfl⟩
 refine q_ (w_ (m_ (h:=m_ (h:=n_ (h:=lt_ (h:=e_ (?_)))))))
 refine aw_cond rfl (fun hb2=>?_) (fun hb2=>?_)
 ·have hc2:=bp hb2
  obtain⟨hlt,x,hx,hrow, -⟩:=row_at nodA hc2
  have hen:=hf.ents d (List.mem_of_getElem? g2) x (List.mem_of_getElem? hx)
  refine kt_ (q_ (aw_block (w_ (a_ (h:=e_ (aw_block (?_)))))))
  refine aw_loopW (fun m s=>∃i c2:Nat,i≤x.entries.length∧m=x.entries.length - i∧c2=c+cntE a.2 (x.entries.take i)∧c2≤c+i∧s=⟨look [(3, .bp 1 0),(5, .v (.int .i64 (c2:Int))),(6, .sl 8 (d.nodes.map nodA) none),(7, .v (.int .i64 (j:Int))),(8, .v (.int .i64 (i:Int)))],⟨[flsA f,filA a],[]⟩⟩) (x.entries.length) ((wk 2 0)) (⟨0,c,by omega,rfl,rfl,by omega,rfl⟩) ?_
  rintro m s ⟨i,c2,hi,rfl,hc2n,hc2b,rfl⟩
  refine q_ (w_ (m_ (h:=m_ (h:=m_ (h:=i_ (h:=f_ (h:=l_ (h:=n_ (h:=lt_ (h:=e_ (?_)))))))))))
  refine aw_cond rfl (fun hb3=>?_) (fun hb3=>?_)
  ·have hc3:=bp hb3
   obtain⟨hlt3,y,hy,hrow3, -⟩:=row_at entA hc3
   refine kt_ (q_ (aw_block (q_ (yr_ 12 (h:=dm_ 0 (h:=dm_ 1 (h:=di_ 2 (h:=df_ 3 (h:=dl_ 4 (h:=dm_ 5 (h:=di_ 6 (h:=df_ 7 (h:=dl_ 8 (h:=df_ 9 (h:=dl_ 10 (h:=deq_ 11 (h:=z_ (h:=t_ (?_)))))))))))))))))))
   refine aw_cond rfl (fun hb4=>?_) (fun hb4=>?_)
   ·have hc4:=bp hb4
    refine aw_region (m_ (h:=ad_ (h:=a_ (h:=al_nil (x_blockN (t_ (aw_region (m_ (h:=ad_ (h:=a_ (h:=al_nil (?_))))))))))))
    refine x_then ?_
    first|(refine⟨_,_,?_,⟨i+1,c2+1,by omega,rfl,?_,by omega,rfl⟩,(wk 2 0)⟩<;>first|omega|(rw[cntE_snoc hy];simp[hc4];omega))|(refine⟨_,_,?_,⟨i+1,c2,by omega,rfl,?_,by omega,rfl⟩,(wk 2 0)⟩<;>first|omega|(rw[cntE_snoc hy];simp[hc4];omega))
   have hc4:=bp hb4
   refine aw_skip (x_blockN (t_ (aw_region (m_ (h:=ad_ (h:=a_ (h:=al_nil (?_))))))))
   refine x_then ?_
   first|(refine⟨_,_,?_,⟨i+1,c2+1,by omega,rfl,?_,by omega,rfl⟩,(wk 2 0)⟩<;>first|omega|(rw[cntE_snoc hy];simp[hc4];omega))|(refine⟨_,_,?_,⟨i+1,c2,by omega,rfl,?_,by omega,rfl⟩,(wk 2 0)⟩<;>first|omega|(rw[cntE_snoc hy];simp[hc4];omega))
  have hc3:=bp hb3
  have e3:=row_no entA hi hc3
  subst e3
  refine aw_exit (x_thenE (x_thenE (ABlock_out (x_blockN (t_ (aw_region (m_ (h:=ad_ (h:=a_ (h:=al_nil (?_)))))))))))
  refine x_then ?_
  refine⟨_,_,?_,⟨j+1,c2,by omega,rfl,?_,?_,rfl⟩,(wk 2 0)⟩
  ·omega
  ·rw[hc2n,cntN_snoc hx,List.take_length];omega
  have:=cntE_le a.2 (x.entries.take x.entries.length);simp at this;omega
 have hc2:=bp hb2
 have e2:=row_no nodA hj hc2
 subst e2
 refine aw_exit (x_thenE (x_thenE (ABlock_out (t_ (w_ (m_ (h:=a_ (h:=e_ (aw_ret (?_))))))))))
 refine e_ret ?_
 exact vi (by rw[linksF_at g1 g2 g6,hcn,List.take_length])
end
end Go.Proofs.YtbglbmnhgbgelaaGreatDoor
