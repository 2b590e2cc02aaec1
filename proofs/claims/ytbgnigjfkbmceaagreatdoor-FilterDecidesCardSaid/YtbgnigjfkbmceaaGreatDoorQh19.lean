/-
  Part 19 of the proof of FilterDecidesP: what the statement's proof uses of the texts in wip/tpl.
-/
import Derived.Test.YtbgnigjfkbmceaaGreatDoorQh18
open Go.Proofs.Tryz (prog)
set_option maxRecDepth 10000
set_option maxHeartbeats 4000000
set_option linter.unusedVariables false
set_option linter.unusedSimpArgs false
namespace Go.Proofs.YtbgnigjfkbmceaaGreatDoor
open Go.RowKit
section
theorem tC(l:List Int):AFn prog 4 [.sl 1 (l.map CT) none] (fun r=>r= .v (.bool true)):=by
 refine enter Tryz.func4 rfl rfl rfl rfl rfl 0 rfl ?_;refine EL (h:=?_);refine A3 rfl (bP rfl (by repeat (first|exact Args.nil|refine Args.cons _ _ _ _ _ rfl (LP rfl) ?_|refine Args.cons _ _ _ _ _ rfl (MZ _) ?_|refine Args.cons _ _ _ _ _ rfl (Lq _) ?_|refine Args.cons _ _ _ _ _ rfl (Md rfl (by repeat (first|exact A7 _|exact LeA.nil _|exact LeL.refl _|refine LeA.agg ?_|refine LeA.tup ?_|exact LeL.nil|refine LeL.cons ?_ ?_|exact LeA.any _))) ?_)) rfl (iO l) (by repeat constructor) ?_)
 skip
 refine Bt (h:=?_);refine A3 rfl (B1 0 (hc:=t7 l _ (by omega)) (hR:=?_));rintro r a1 ha1 ⟨s,rfl,hs⟩;refine B2 ?_;have hv:=hs.spc;have hmm:s.spc.mounts.length≤1000:=by have:=hs.few;omega
 have hsb:=hv.b hmm;refine Dw (h:=Aa (h:=AO (h:=?_)));refine A3 rfl (B1 0 (hc:=oQ l _ 8 s.spc (by omega) (by omega) hv hmm) (hR:=?_));rintro r a2 ha2 ⟨p,hp,rfl⟩;refine B2 ?_;have sp:=hp.sm (by decide);have hpw:=hp.len;refine Dw (h:=DT (h:=?_));refine BM (fun n S=>∃(j b:Nat),j≤4∧n=4 - j∧b≤a2+j * 500∧S=⟨look [(3, .bp 0 0),(4, .bp 1 0),(5, .bp 2 0),(6, .v (.int .i64 (j:Int)))],⟨[Dr l b,CW s,Bn p],[]⟩⟩) (4) ((wk 3 0)) (⟨0,a2,by omega,rfl,by omega,rfl⟩) ?_;rintro n S ⟨j,b,hj,rfl,hb,rfl⟩;refine Bf (h:=Cv (h:=?_));refine A4 rfl (fun hb1 hc1=>?_) (fun hb1 hc1=>?_)
 ·refine By (h:=Aa (h:=l_ (h:=?_)));refine A3 rfl (B1 0 (hc:=tB l _ s (by omega) (hs.mono (by omega))) (hR:=?_));rintro r a3 ha3 ⟨c,k,s1,r1,hit,rfl⟩;refine B2 ?_;refine Ge (h:=x_ (h:=CU (h:=CU (h:=Mf (h:=s_ (h:=Ei (h:=?_)))))));refine BC (fun S=>∃(c:Ctx) (b1:Nat),c.items.length≤1000∧b1≤a2+j * 500+450∧S=⟨look [(3, .bp 0 0),(4, .bp 1 0),(5, .bp 2 0),(6, .v (.int .i64 (j:Int))),(7, .bp 3 0)],⟨[Dr l b1,CW s,Bn p,C7 c k,CW s1,Kr r1],[]⟩⟩) ?_ ?_
  ·skip
   refine Aa (h:=?_);refine A3 rfl (B1 0 (hc:=Gn l _ (6) (by omega) (by omega)) (hR:=?_));rintro r a4 ha4 ⟨k4,rfl,p4,q4,o4⟩;refine B2 ?_;refine Ed (h:=e_ (?_));refine A4 rfl (fun hb2 hc2=>?_) (fun hb2 hc2=>?_)
   ·refine Aw (f_ (h:=Jf (h:=?_)));exact⟨_,⟨cT c,_,hit,(by omega),rfl⟩,Ah 6 0 rfl rfl rfl rfl ((by repeat (first|exact Sub.nil|refine Ai rfl rfl ?_|refine Ap ?_|refine Aq rfl ?_|refine Ar rfl ?_)))⟩
   refine BG (AR (?_))
   first|exact⟨_,⟨cT c,_,hit,(by omega),rfl⟩,Ah 6 0 rfl rfl rfl rfl ((by repeat (first|exact Sub.nil|refine Ai rfl rfl ?_|refine Ap ?_|refine Aq rfl ?_|refine Ar rfl ?_)))⟩|exact⟨_,⟨c,_,hit,(by omega),rfl⟩,Ah 6 0 rfl rfl rfl rfl ((by repeat (first|exact Sub.nil|refine Ai rfl rfl ?_|refine Ap ?_|refine Aq rfl ?_|refine Ar rfl ?_)))⟩
  rintro S ⟨c,b1,hit,hb1,rfl⟩;refine CA (h:=?_);refine A3 rfl (A8 (ZX p c k sp.rl sp.ts) ?_);rintro r rfl;refine Ee (h:=BO (h:=CA (h:=?_)));refine A3 rfl (A8 (ZY p c k sp.rl sp.ts) ?_);rintro r rfl;refine m_ (h:=x_ (h:=x_ (h:=CU (h:=s_ (h:=a_ (h:=e_ (q_ (q_ (Ct 52 (h:=AE 0 (h:=AE 1 (h:=Lv 2 (h:=AE 3 (h:=?_))))))))))))));refine GD (j:=3) rfl (fun hb3=>?_) (fun hb3=>?_)
  ·have hc3:=bp hb3;simp at hc3
  have hc3:=bp hb3;refine A9 4 (h:=A9 5 (h:=?_));refine F9 (i:=6) rfl (S5 (JW p.rules (Nl p c)) rfl rfl ⟨rfl,rfl⟩) ?_;refine FB 7 (h:=AE 8 (h:=?_));refine GD (j:=8) rfl (fun hb4=>?_) (fun hb4=>?_)
  ·have hc4:=bp hb4;simp at hc4
  have hc4:=bp hb4;refine A9 9 (h:=AA 10 (h:=A9 11 (h:=A9 12 (h:=A9 14 (h:=AA 15 (h:=A9 16 (h:=A9 17 (h:=?_))))))));refine c_ 13 rfl (A8 (Zj s.spc p c k hsb sp.rl hpw sp.ts hit) ?_);rintro r rfl;refine o_ (h:=?_);refine c_ 18 rfl (A8 (Zk s.spc p c k hsb sp.rl hpw sp.ts hit hv) ?_);rintro r rfl;refine o_ (h:=?_);refine F9 (i:=19) rfl (S5 (JW p.rules (Nm s.spc p c)) rfl rfl ⟨rfl,rfl⟩) ?_;refine FB 20 (h:=AE 21 (h:=?_));refine GD (j:=21) rfl (fun hb5=>?_) (fun hb5=>?_)
  ·have hc5:=bp hb5;simp at hc5
  have hc5:=bp hb5;refine A9 22 (h:=AA 23 (h:=A9 24 (h:=A9 25 (h:=A9 27 (h:=AA 28 (h:=A9 29 (h:=A9 30 (h:=?_))))))));refine c_ 26 rfl (A8 (Uh s.spc p c k hsb sp.rl hpw sp.ts hit) ?_);rintro r rfl;refine o_ (h:=?_);refine c_ 31 rfl (A8 (pK s.spc p c k hsb sp.rl hpw sp.ts hit hv) ?_);rintro r rfl;refine o_ (h:=?_);refine F9 (i:=32) rfl (S5 (KN s.spc p c) rfl rfl ⟨rfl,rfl⟩) ?_;refine FB 33 (h:=AE 34 (h:=?_));refine GD (j:=34) rfl (fun hb6=>?_) (fun hb6=>?_)
  ·have hc6:=bp hb6;simp at hc6
  have hc6:=bp hb6;refine A9 35 (h:=A9 36 (h:=A9 38 (h:=A9 39 (h:=?_))));refine c_ 37 rfl (A8 (pR p c k sp.rl sp.ts hit _ rfl) ?_);rintro r rfl;refine o_ (h:=?_);refine c_ 40 rfl (A8 (pS p c k sp.rl sp.ts hit _ rfl) ?_);rintro r rfl;refine o_ (h:=Lv 41 (h:=FB 42 (h:=AE 43 (h:=?_))));refine GD (j:=43) rfl (fun hb7=>?_) (fun hb7=>?_)
  ·have hc7:=bp hb7;simp at hc7
  have hc7:=bp hb7;refine A9 44 (h:=A9 45 (h:=A9 47 (h:=A9 48 (h:=?_))));refine c_ 46 rfl (A8 (pT p c k sp.rl sp.ts hit _ rfl) ?_);rintro r rfl;refine o_ (h:=?_);refine c_ 49 rfl (A8 (pU p c k sp.rl sp.ts hit _ rfl) ?_);rintro r rfl;refine o_ (h:=?_);refine F9 (i:=50) rfl (S5 (ML p.rules c.audited (Ud p c)) rfl rfl ⟨rfl,rfl⟩) ?_;refine FB 51 (h:=z_ (h:=t_ (?_)));refine A4 rfl (fun hb8 hc8=>?_) (fun hb8 hc8=>?_)
  ·simp at hc8
  refine AG (?_);refine BC (fun S=>∃L:List Bool,L.length≤1000∧S=⟨look [(3, .bp 0 0),(4, .bp 1 0),(5, .bp 2 0),(6, .v (.int .i64 (j:Int))),(14, .sl 1 (L.map Dn) none),(15, .sl 1 (L.map Dn) none)],⟨[Dr l b1,CW s,Bn p],[]⟩⟩) ?_ ?_
  ·skip
   refine Ct 14 (h:=A9 0 (h:=AA 1 (h:=A9 2 (h:=AA 3 (h:=A9 4 (h:=A9 6 (h:=AA 7 (h:=A9 8 (h:=AA 9 (h:=A9 10 (h:=?_)))))))))));refine c_ 5 rfl (A8 (Zi s.spc p c.items hsb sp.rl hpw hit) ?_);rintro r rfl;refine o_ (h:=?_);refine c_ 11 rfl (A8 (Zh s.spc p c.items hv hsb sp.rl hpw hit _ rfl) ?_);rintro r rfl;refine o_ (h:=B9 12 (h:=B9 13 (h:=z_ (h:=?_))));refine AR ?_;exact⟨_,⟨J8 s.spc p c.items,(by rw[Ug hpw];exact sp.rl),rfl⟩,Ah 3 0 rfl rfl rfl rfl ((by repeat (first|exact Sub.nil|refine Ai rfl rfl ?_|refine Ap ?_|refine Aq rfl ?_|refine Ar rfl ?_)))⟩
  rintro S ⟨L,hL,rfl⟩;refine Bf (h:=JP (h:=n_ (h:=Bl (h:=?_))));refine A4 rfl (fun hb9 hc9=>?_) (fun hb9 hc9=>?_)
  ·simp at hc9
  refine AG (NJ (h:=?_));refine BM (fun n S=>∃i:Nat,i≤L.length∧n=L.length - i∧S=⟨look [(3, .bp 0 0),(4, .bp 1 0),(5, .bp 2 0),(6, .v (.int .i64 (j:Int))),(14, .sl 1 (L.map Dn) none),(15, .sl 1 (L.map Dn) none),(16, .v (.int .i64 (i:Int)))],⟨[Dr l b1,CW s,Bn p],[]⟩⟩) (L.length) ((wk 3 0)) (⟨0,BE _,rfl,rfl⟩) ?_;rintro n S ⟨i,hi,rfl,rfl⟩;refine De (h:=Fi (h:=?_));refine A4 rfl (fun hb10 hc10=>?_) (fun hb10 hc10=>?_)
  ·obtain⟨hlt,z,hy,hrow, -⟩:=Br Dn hc10;refine AG (q_ (BF (q_ (Ct 9 (h:=AE 0 (h:=AE 1 (h:=CL 2 (h:=A9 3 (h:=AE 4 (h:=AE 5 (h:=CL 6 (h:=A9 7 (h:=Lv 8 (h:=z_ (h:=t_ (?_))))))))))))))));refine A4 rfl (fun hb11 hc11=>?_) (fun hb11 hc11=>?_)
   ·simp at hc11
   refine Cm (h:=?_);refine⟨_,_,?_,⟨i+1,by omega,rfl,rfl⟩,Ah 3 0 rfl rfl rfl rfl ((by repeat (first|exact Sub.nil|refine Ai rfl rfl ?_|refine Ap ?_|refine Aq rfl ?_|refine Ar rfl ?_)))⟩;omega
  have e:=C6 Dn hi hc10;subst e;refine Kb (h:=Ef (h:=?_));refine⟨_,_,?_,⟨j+1,_,by omega,rfl,?_,rfl⟩,Ah 3 0 rfl rfl rfl rfl ((by repeat (first|exact Sub.nil|refine Ai rfl rfl ?_|refine Ap ?_|refine Aq rfl ?_|refine Ar rfl ?_)))⟩<;>omega
 refine CP (h:=w_ (?_));refine A3 rfl (A8 (pQ) ?_);rintro r rfl;refine Az (h:=?_);refine A6 ?_;rfl
end
theorem FilterDecides_walk{H:Type}{enc:TypeId×Value→H}{sp:Nat→Bool}{held:Bool}{base:Nat}(a:Option Addr)(n c:Nat)(w:World){d:DataW H}{p:List MemPlace}(h:DataW.Trod enc prog w base sp held 22 (.slice a n c) d p):
    Calls prog 4 #[.slice a n c] w fun e w'=>e= .returned (.bool true)∧Below w.heap.size w w':=jB tC a n c w h
end Go.Proofs.YtbgnigjfkbmceaaGreatDoor
