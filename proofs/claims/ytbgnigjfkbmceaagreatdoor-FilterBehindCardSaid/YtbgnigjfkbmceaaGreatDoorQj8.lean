/- Part 8 of the proof of FilterBehindP. -/
import Derived.Test.YtbgnigjfkbmceaaGreatDoorQj7
open Go.Proofs.Tryz (prog)
set_option maxRecDepth 10000
set_option maxHeartbeats 4000000
set_option linter.unusedVariables false
set_option linter.unusedSimpArgs false
namespace Go.Proofs.YtbgnigjfkbmceaaGreatDoor
open Go.RowKit
theorem yV{s:Spc}{p:Pol}{r:Rul}(h:(EQ s p r false).2=0):(EQ s p r false).1.rules=p.rules++[r]/\(EQ s p r false).1.wats=p.wats++[(Cu s r).1]:=by
 unfold EQ at h ⊢;by_cases c1:(Bi p.rules r false).2≠0
 ·rw[if_pos c1]at h;exact absurd h c1
 rw[if_neg c1]at h ⊢;by_cases c2:(Cu s r).2≠0
 ·rw[if_pos c2]at h;exact absurd h c2
 rw[if_neg c2];have d1:(Bi p.rules r false).2=0:=by simpa using c1
 exact⟨by simp only[Vq d1];rfl,rfl⟩
section
theorem yW(l:List Int):AFn prog 10 [.sl 1 (l.map Cc) none] (fun r=>r= .v (.bool true)):=by
 refine enter Tryz.func10 rfl rfl rfl rfl rfl 0 rfl ?_;refine FB (h:=?_);refine A7 (fS rfl (by repeat (first|exact Args.nil|refine Args.cons _ _ _ _ _ rfl (LP rfl) ?_|refine Args.cons _ _ _ _ _ rfl (MK _) ?_|refine Args.cons _ _ _ _ _ rfl (Lq _) ?_|refine Args.cons _ _ _ _ _ rfl (MM rfl (by repeat (first|exact A6 _|exact LeA.nil _|exact LeL.refl _|refine LeA.agg ?_|refine LeA.tup ?_|exact LeL.nil|refine LeL.cons ?_ ?_|exact LeA.any _))) ?_)) rfl (mJ l) (by repeat constructor) ?_)
 skip
 refine Cl (h:=?_);refine A7 (B0 0 (hc:=yM l _ (by omega)) (hR:=?_));rintro r a1 ha1 ⟨s,rfl,hs⟩;refine B1 ?_;have hv:=hs.spc;have hmm:s.spc.mounts.length<=1000:=by have:=hs.few;omega
 have hsb:=hv.b hmm;refine CP (h:=Ab (h:=Ac (h:=?_)));refine A7 (B0 0 (hc:=v7 l _ 6 s.spc (by omega) (by omega) hv hmm) (hR:=?_));rintro r a2 ha2 ⟨p,hp,rfl⟩;refine B1 ?_;have sp:=hp.sm (by decide);have hpw:=hp.len;refine CP (h:=?_);refine BD (fun S=>∃(x:Rul) (b1:Nat),b1<=1000000/\Dz x/\S=⟨look [(3, .bp 0 0),(4, .bp 1 0),(5, .bp 2 0),(6, .bp 3 0),(7, .v (.int .i64 (EQ s.spc p x false).2))],⟨[EE l b1,Cb s,C8 p,C8 (EQ s.spc p x false).1],[]⟩⟩) ?_ ?_
 ·refine BJ ([(1,Cb s),(2,C8 p)]) 12 (h:=A9 0 (h:=AA 1 (h:=A9 2 (h:=AE 3 (h:=?_)))));refine Ed 4 9 rfl rfl ?_ ?_
  ·refine B0 0 (hc:=Sk l _ (by omega)) (hR:=?_);rintro r a3 ha3 ⟨x,hx,hg,rfl⟩;refine B1 ?_;refine o_ (h:=Ed 5 9 rfl rfl ?_ ?_)
   ·refine AX (Vo s.spc p x hv hmm (by have:=hp.lst.len;omega) hp.len hp.lst.ins hx false rfl _ rfl _ rfl) ?_;rintro r rfl;refine o_ (h:=AE 6 (h:=B6 7 (h:=B6 8 (h:=?_))));refine c_ 9 rfl (Bn (by repeat constructor) ?_);refine o_ (h:=Ax 10 (h:=B8 11 (h:=z_ (h:=?_))));refine AT ?_;exact⟨_,⟨x,_,(by omega),hx,rfl⟩,At 4 0 rfl rfl rfl rfl ((by repeat (first|exact Sub.nil|refine Aw rfl rfl ?_|refine B3 ?_|refine B4 rfl ?_|refine B5 rfl ?_)))⟩
   refine Bn (by repeat constructor) ?_;refine o_ (h:=c_ 5 rfl (AX (Vo s.spc p x hv hmm (by have:=hp.lst.len;omega) hp.len hp.lst.ins hx false rfl _ rfl _ rfl) ?_));rintro r rfl;refine o_ (h:=AE 6 (h:=B6 7 (h:=B6 8 (h:=?_))));refine Ax 10 (h:=B8 11 (h:=z_ (h:=?_)));refine AT ?_;exact⟨_,⟨x,_,(by omega),hx,rfl⟩,At 4 0 rfl rfl rfl rfl ((by repeat (first|exact Sub.nil|refine Aw rfl rfl ?_|refine B3 ?_|refine B4 rfl ?_|refine B5 rfl ?_)))⟩
  refine Bn (by repeat constructor) ?_;refine o_ (h:=c_ 4 rfl (B0 0 (hc:=Sk l _ (by omega)) (hR:=?_)));rintro r a4 ha4 ⟨x,hx,hg,rfl⟩;refine B1 ?_;refine o_ (h:=c_ 5 rfl (AX (Vo s.spc p x hv hmm (by have:=hp.lst.len;omega) hp.len hp.lst.ins hx false rfl _ rfl _ rfl) ?_));rintro r rfl;refine o_ (h:=AE 6 (h:=B6 7 (h:=B6 8 (h:=?_))));refine Ax 10 (h:=B8 11 (h:=z_ (h:=?_)));refine AT ?_;exact⟨_,⟨x,_,(by omega),hx,rfl⟩,At 4 0 rfl rfl rfl rfl ((by repeat (first|exact Sub.nil|refine Aw rfl rfl ?_|refine B3 ?_|refine B4 rfl ?_|refine B5 rfl ?_)))⟩
 rintro S ⟨x,b1,kd,hx,rfl⟩;have hbe:=fun h=>yV (s:=s.spc) (p:=p) (r:=x) h;have hpa:=fun h=>hp.add (f:=false) hx h;generalize (EQ s.spc p x false).2=e at hbe hpa ⊢;generalize (EQ s.spc p x false).1=q at hbe hpa ⊢;refine Be (h:=D3 (h:=?_));refine A3 rfl (fun kd ka=>?_) (fun kd ka=>?_)
 ·refine w_ (?_);refine AK (Ml) ?_;refine FN (h:=?_);refine A4 ?_;rfl
 have he:e=0:=by simpa using ka
 subst he;obtain⟨hqr,hqx⟩:=hbe rfl;have hq:=hpa rfl;have sq:=hq.sm (by decide);have hqw:=hq.len;have hen:=fun c=>yR (c:=c) hqr;have hus:=fun c b=>yS (c:=c) (b:=b) hqr;have hex:=fun c=>yU (s:=s.spc) (c:=c) hqr hqx hpw;refine Ei (h:=l_ (h:=?_));refine A7 (B0 0 (hc:=yQ l _ s (by omega) (hs.mono (by omega))) (hR:=?_));rintro r a5 ha5 ⟨c,k,s1,r1,hit,rfl⟩;refine B1 ?_;refine Ft (h:=x_ (h:=Ck (h:=Ck (h:=Lt (h:=s_ (h:=GF (h:=?_)))))));refine BD (fun S=>∃(c:Ctx) (k:Cxs) (s1:Syst) (r1:Res) (b2:Nat),c.items.length<=1000/\S=⟨look [(3, .bp 0 0),(4, .bp 1 0),(5, .bp 2 0),(6, .bp 3 0),(8, .bp 4 0)],⟨[EE l b2,Cb s,C8 p,C8 q,EK (cT c) k,Cb s1,Kj r1],[]⟩⟩) ?_ ?_
 ·refine Aq (f_ (h:=Jf (h:=?_)));exact⟨_,⟨c,k,s1,r1,_,hit,rfl⟩,At 7 0 rfl rfl rfl rfl ((by repeat (first|exact Sub.nil|refine Aw rfl rfl ?_|refine B3 ?_|refine B4 rfl ?_|refine B5 rfl ?_)))⟩
 rintro S ⟨c,k,s1,r1,b2,hit,rfl⟩;refine C9 (h:=?_);refine AK (Vs p (cT c) k sp.rl sp.ts) ?_;refine EU (h:=Ay (h:=C9 (h:=?_)));refine AK (Vs q (cT c) k sq.rl sq.ts) ?_;refine EU (h:=Ay (h:=?_));refine BD (fun S=>S=⟨look [(3, .bp 0 0),(4, .bp 1 0),(5, .bp 2 0),(6, .bp 3 0),(8, .bp 4 0),(11, .bp 7 0),(13, .bp 8 0),(15, .bp 9 0),(16, .bp 10 0)],⟨[EE l b2,Cb s,C8 p,C8 q,EK (cT c) k,Cb s1,Kj r1,Gk (Fq p.rules (KH p (cT c))),Gk (Fq q.rules (KH q (cT c))),Gk (Fq p.rules (KK s.spc p (cT c))),Gk (Fq q.rules (KK s.spc q (cT c)))],[]⟩⟩) ?_ ?_
 ·refine BJ ([(1,Cb s),(2,C8 p),(3,C8 q),(4,EK (cT c) k)]) 13 (h:=A9 0 (h:=AA 1 (h:=A9 2 (h:=A9 3 (h:=?_)))));refine CE 4 rfl (fun _ _=>AX (Vu s.spc p (cT c) k hsb sp.rl hpw sp.ts hit) fun _ e=>⟨e,rfl⟩) ?_;refine A9 5 (h:=AA 6 (h:=A9 7 (h:=A9 8 (h:=?_))));refine CE 9 rfl (fun _ _=>AX (Vu s.spc q (cT c) k hsb sq.rl hqw sq.ts hit) fun _ e=>⟨e,rfl⟩) ?_;refine Ed 10 11 rfl rfl ?_ ?_
  ·refine Bn (by repeat constructor) ?_;refine o_ (h:=c_ 11 rfl (Bn (by repeat constructor) ?_));refine o_ (h:=Ax 12 (h:=?_));refine Ax 13 (h:=z_ (h:=?_));refine AT ?_;exact⟨_,rfl,At 11 0 rfl rfl rfl rfl ((by repeat (first|exact Sub.nil|refine Aw rfl rfl ?_|refine B3 ?_|refine B4 rfl ?_|refine B5 rfl ?_)))⟩
  refine Bn (by repeat constructor) ?_;refine o_ (h:=c_ 10 rfl (Bn (by repeat constructor) ?_));refine o_ (h:=Ax 12 (h:=?_));refine Ax 13 (h:=z_ (h:=?_));refine AT ?_;exact⟨_,rfl,Tg [0,1,2,3,4,5,6,7,8,10,9]⟩
 rintro S rfl;refine BD (fun S=>∃(U1 V1 U2 V2 U3 V3:Vdt),(U1.rule= -1\/U1=V1)/\(U2.rule= -1\/U2=V2)/\(U3.rule= -1\/U3=V3)/\S=⟨look [(11, .bp 0 0),(13, .bp 1 0),(15, .bp 2 0),(16, .bp 3 0),(17, .bp 4 0),(18, .bp 5 0)],⟨[Gk U1,Gk V1,Gk U2,Gk V2,Gk U3,Gk V3],[]⟩⟩) ?_ ?_
 ·refine BJ ([(1,Cb s),(2,C8 p),(3,C8 q),(4,EK (cT c) k)]) 9 (h:=A9 0 (h:=A9 1 (h:=?_)));refine CE 2 rfl (fun _ _=>AX (dJ p (cT c) k sp.rl sp.ts hit _ rfl) fun _ e=>⟨e,rfl⟩) ?_;refine A9 3 (h:=A9 4 (h:=?_));refine CE 5 rfl (fun _ _=>AX (dJ q (cT c) k sq.rl sq.ts hit _ rfl) fun _ e=>⟨e,rfl⟩) ?_;refine Ed 6 7 rfl rfl ?_ ?_
  ·refine Bn (by repeat constructor) ?_;refine o_ (h:=c_ 7 rfl (Bn (by repeat constructor) ?_));refine o_ (h:=Ax 8 (h:=?_));refine Ax 9 (h:=z_ (h:=?_));refine AT ?_;exact⟨_,⟨_,_,_,_,_,_,hen (cT c),hex (cT c),hus (cT c) _,rfl⟩,Tg [7,8,9,10,11,12]⟩
  refine Bn (by repeat constructor) ?_;refine o_ (h:=c_ 6 rfl (Bn (by repeat constructor) ?_));refine o_ (h:=Ax 8 (h:=?_));refine Ax 9 (h:=z_ (h:=?_));refine AT ?_;exact⟨_,⟨_,_,_,_,_,_,hen (cT c),hex (cT c),hus (cT c) _,rfl⟩,Tg [7,8,9,10,12,11]⟩
 rintro S ⟨U1,V1,U2,V2,U3,V3,hu1,hu2,hu3,rfl⟩;refine B2 (h:=Dv (h:=?_));refine AF false rfl rfl (fun ke kc=>?_) (fun ke kc=>?_)
 ·refine Co (h:=Ju (h:=?_));refine AF false rfl rfl (fun kh kf=>?_) (fun kh kf=>?_)
  ·refine G9 (h:=Bg (h:=Ju (h:=?_)));refine AF false rfl rfl (fun kl kg=>?_) (fun kl kg=>?_)
   ·refine G9 (h:=Bg (h:=?_));refine Ak (AX (Ml) ?_);rintro r rfl;refine Eg (h:=?_);refine A4 ?_;rfl
   rcases hu3 with hh|hh;(exact absurd hh kg);subst hh;refine Fv (h:=?_);refine Ak (OF _ rfl rfl ?_);refine C3 (h:=Bg (h:=?_));refine AF true rfl rfl (fun ko kk=>?_) (fun ko kk=>?_)
   ·refine Ak (AX (Ml) ?_);rintro r rfl;refine Eg (h:=?_);refine A4 ?_;rfl
   first|skip
   refine DT (h:=H9 (h:=?_));refine A4 ?_;exfalso;first|contradiction|omega|(simp_all;done)
  rcases hu2 with hh|hh;(exact absurd hh kf);subst hh;refine Fv (h:=?_);refine Ak (OF _ rfl rfl ?_);refine C3 (h:=Bg (h:=?_));refine AF true rfl rfl (fun kq km=>?_) (fun kq km=>?_)
  ·refine Ju (h:=?_);refine AF false rfl rfl (fun ks kp=>?_) (fun ks kp=>?_)
   ·refine G9 (h:=Bg (h:=?_));refine Ak (AX (Ml) ?_);rintro r rfl;refine Eg (h:=?_);refine A4 ?_;rfl
   rcases hu3 with hh|hh;(exact absurd hh kp);subst hh;refine Fv (h:=?_);refine Ak (OF _ rfl rfl ?_);refine C3 (h:=Bg (h:=?_));refine AF true rfl rfl (fun kt kr=>?_) (fun kt kr=>?_)
   ·refine Ak (AX (Ml) ?_);rintro r rfl;refine Eg (h:=?_);refine A4 ?_;rfl
   first|skip
   refine DT (h:=H9 (h:=?_));refine A4 ?_;exfalso;first|contradiction|omega|(simp_all;done)
  first|skip
  refine Jr (h:=BZ (h:=DT (h:=H9 (h:=?_))));refine A4 ?_;exfalso;first|contradiction|omega|(simp_all;done)
 rcases hu1 with hh|hh;(exact absurd hh kc);subst hh;refine Fv (h:=?_);refine Ak (OF _ rfl rfl ?_);refine BZ (h:=?_);refine AF true rfl rfl (fun kv ku=>?_) (fun kv ku=>?_)
 ·refine Ju (h:=?_);refine AF false rfl rfl (fun yf yb=>?_) (fun yf yb=>?_)
  ·refine G9 (h:=Bg (h:=Ju (h:=?_)));refine AF false rfl rfl (fun yq yc=>?_) (fun yq yc=>?_)
   ·refine G9 (h:=Bg (h:=?_));refine Ak (AX (Ml) ?_);rintro r rfl;refine Eg (h:=?_);refine A4 ?_;rfl
   rcases hu3 with hh|hh;(exact absurd hh yc);subst hh;refine Fv (h:=?_);refine Ak (OF _ rfl rfl ?_);refine C3 (h:=Bg (h:=?_));refine AF true rfl rfl (fun yu yg=>?_) (fun yu yg=>?_)
   ·refine Ak (AX (Ml) ?_);rintro r rfl;refine Eg (h:=?_);refine A4 ?_;rfl
   first|skip
   refine DT (h:=H9 (h:=?_));refine A4 ?_;exfalso;first|contradiction|omega|(simp_all;done)
  rcases hu2 with hh|hh;(exact absurd hh yb);subst hh;refine Fv (h:=?_);refine Ak (OF _ rfl rfl ?_);refine C3 (h:=Bg (h:=?_));refine AF true rfl rfl (fun yy yr=>?_) (fun yy yr=>?_)
  ·refine Ju (h:=?_);refine AF false rfl rfl (fun ff fc=>?_) (fun ff fc=>?_)
   ·refine G9 (h:=Bg (h:=?_));refine Ak (AX (Ml) ?_);rintro r rfl;refine Eg (h:=?_);refine A4 ?_;rfl
   rcases hu3 with hh|hh;(exact absurd hh fc);subst hh;refine Fv (h:=?_);refine Ak (OF _ rfl rfl ?_);refine C3 (h:=Bg (h:=?_));refine AF true rfl rfl (fun fe fx=>?_) (fun fe fx=>?_)
   ·refine Ak (AX (Ml) ?_);rintro r rfl;refine Eg (h:=?_);refine A4 ?_;rfl
   first|skip
   refine DT (h:=H9 (h:=?_));refine A4 ?_;exfalso;first|contradiction|omega|(simp_all;done)
  first|skip
  refine Jr (h:=BZ (h:=DT (h:=H9 (h:=?_))));refine A4 ?_;exfalso;first|contradiction|omega|(simp_all;done)
 first|skip
 refine Jr (h:=BZ (h:=Jr (h:=BZ (h:=DT (h:=C3 (h:=Ay (h:=?_)))))));refine BH (?_);refine A4 ?_;exfalso;first|contradiction|omega|(simp_all;done)
end
theorem FilterBehind_walk{H:Type}{enc:TypeId×Value->H}{sp:Nat->Bool}{held:Bool}{base:Nat}(a:Option Addr)(n c:Nat)(w:World){d:DataW H}{p:List MemPlace}(h:DataW.Trod enc prog w base sp held 22 (.slice a n c) d p):
    Calls prog 10 #[.slice a n c] w fun e w'=>e= .returned (.bool true)/\Below w.heap.size w w':=nV yW a n c w h
end Go.Proofs.YtbgnigjfkbmceaaGreatDoor
