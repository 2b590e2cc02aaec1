/-
  Part 14 of the proof of FilterChangesP: what the statement's proof uses of the texts in wip/tpl.
-/
import Derived.Test.YtbgnigjfkbmceaaGreatDoorQa13
open Go.Proofs.Tryz (prog)
set_option maxRecDepth 10000
set_option maxHeartbeats 4000000
set_option linter.unusedVariables false
set_option linter.unusedSimpArgs false
namespace Go.Proofs.YtbgnigjfkbmceaaGreatDoor
open Go.RowKit
def NU(s:Spc)(tg:AJ)(rest:List AJ)(w:Wk):Wk:=⟨CT tg++rest,if Ce tg=true then Cs s else w.at_,if Ce tg=true then(0,0)else w.dir,if Ce tg=true then⟨#[]⟩else w.name,w.missing,w.links+1⟩
theorem NV(s:Spc)(fl:Bool)(w:Wk):BA 0 0 (Di s fl w)=true:=rfl
section
theorem bU(s:Spc)(fl:Bool)(w:Wk)(tg:AJ)(rest:List AJ)(hs:SpcB s)(h8:w.links≤8)(htg:tg.size≤60000)(hrl:rest.length≤500000):MH prog 266 [.bp 0 0, .v (.string tg), .sl 1 (rest.map Ci) none] (Di s fl w) (fun r row'=>(w.links=8∧r= .v (.int .i64 40)∧row'=Di s fl w)∨(w.links≠8∧r= .v (.int .i64 0)∧row'=Di s fl (NU s tg rest w))):=by
 have hpl:=K8 tg;refine enter Tryz.func266 rfl rfl rfl rfl rfl 1 rfl ?_;refine w_ (a_ (h:=e_ (q_ (w_ (m_ (h:=k_ (h:=f_ (h:=l_ (h:=AN (h:=e_ (?_)))))))))));refine A9 rfl (fun hb1=>?_) (fun hb1=>?_)
 ·have hc1:=bp hb1;refine w_ (a_ (h:=e_ (A4 (A7 (?_)))));refine Am none (h5:=(AZ _)) (h6:=⟨_,rfl,rfl, .inl ⟨by omega,rfl,rfl⟩⟩)
 have hc1:=bp hb1;refine AA (w_ (m_ (h:=k_ (h:=f_ (h:=l_ (h:=?_))))));refine A6 rfl (GP rfl rfl (by omega) ?_);refine k_ (h:=f_ (h:=s_ (h:=e_ (w_ (m_ (h:=?_))))));refine A6 rfl (AE (U5 tg htg) ?_);rintro r rfl;refine m_ (h:=x_ (h:=x_ (h:=x_ (h:=a_ (h:=a_ (h:=a_ (h:=e_ (w_ (m_ (h:=m_ (h:=m_ (h:=n_ (h:=m_ (h:=n_ (h:=?_)))))))))))))));refine bK rfl rfl rfl rfl rfl rfl rfl rfl rfl rfl (by simp;omega) ?_;refine k_ (h:=f_ (h:=s_ (h:=e_ (q_ (w_ (m_ (h:=?_)))))));refine A6 rfl (AE (bQ tg) ?_);rintro r rfl;refine e_ (?_);refine A9 rfl (fun hb2=>?_) (fun hb2=>?_)
 ·have hc2:=bp hb2;refine AT (m_ (h:=m_ (h:=m_ (h:=m_ (h:=k_ (h:=f_ (h:=l_ (h:=?_))))))));refine A6 rfl (AE (U7 s hs) ?_);rintro r rfl;refine Ab (h:=k_ (h:=f_ (h:=s_ (h:=k_ (h:=f_ (h:=s_ (h:=k_ (h:=f_ (h:=s_ (h:=e_ (w_ (a_ (h:=e_ (A4 (?_)))))))))))))));refine Am none (h5:=(AZ _)) (h6:=⟨_,rfl,rfl, .inr ⟨by omega,rfl,by simp only[Di,NU,if_pos hc2,List.map_append];rfl⟩⟩)
 have hc2:=bp hb2;refine AA (w_ (a_ (h:=e_ (A4 (?_)))));refine Am none (h5:=(AZ _)) (h6:=⟨_,rfl,rfl, .inr ⟨by omega,rfl,by simp only[Di,NU,hc2,if_neg (show¬false=true by simp),List.map_append];rfl⟩⟩)
theorem bV(s:Spc)(fl:Bool)(w:Wk)(p:AJ)(ps:List AJ)(hps:w.ps=p::ps)(hs:SpcB s)(hv:SpcV s)(h8:w.links≤8)(hrl:ps.length≤500000):MH prog 243 [.bp 0 0] (Di s fl w) (fun r row'=>(∃e,Dh s fl p ps w= .inl e∧e≠0∧r= .v (.int .i64 e)∧row'=Di s fl w)∨∃w',Dh s fl p ps w= .inr w'∧r= .v (.int .i64 0)∧row'=Di s fl w'):=by
 obtain⟨ps0,a,dr,nm,mi,lk⟩:=w;simp only at hps h8;subst hps;have hml:(ps.map Ci).length=ps.length:=by simp
 have htg:=LM hv.files (AQ s.files a p).1;refine enter Tryz.func243 rfl rfl rfl rfl rfl 1 rfl ?_;refine w_ (a_ (h:=e_ (q_ (CB ([(0,Di s fl ⟨p::ps,a,dr,nm,mi,lk⟩)]) 13 (h:=Ap 0 (h:=Du 1 (h:=Az 2 (h:=AY 3 (h:=?_)))))))));refine BG 4 rfl (fun _ hS=>Dc (n:=0) rfl rfl rfl rfl ⟨rfl,rfl⟩) ?_;refine AY 5 (h:=Ap 6 (h:=Du 7 (h:=Az 8 (h:=AY 9 (h:=?_)))));refine BG 10 rfl (fun _ hS=>MD (l:=1) rfl rfl rfl (by simp) ⟨rfl,rfl⟩) ?_;refine BN 11 (h:=BN 12 (h:=z_ (h:=t_ (q_ (w_ (m_ (h:=?_)))))));refine A6 rfl (Fg 1 rfl (.cons _ _ _ _ _ rfl (AZ _) .nil) (QA s fl ⟨p::ps,a,dr,nm,mi,lk⟩ hs) ?_);rintro r rfl;refine⟨rfl,?_⟩;refine B7 (h:=e_ (?_));refine A9 rfl (fun hb1=>?_) (fun hb1=>?_)
 ·have hc1:=bp hb1;refine w_ (a_ (h:=e_ (A4 (A7 (?_)))));refine Am none (h5:=(AZ _)) (h6:=⟨_,rfl,rfl, .inl ⟨20,by unfold Dh;rw[if_pos hc1],by decide,rfl,rfl⟩⟩)
 have hc1:=bp hb1;refine AA (q_ (w_ (m_ (h:=n_ (h:=Bf (h:=e_ (?_)))))));refine A9 rfl (fun hb2=>?_) (fun hb2=>?_)
 ·have hc2:=bp hb2;refine w_ (a_ (h:=e_ (A4 (A7 (?_)))));refine Am none (h5:=(AZ _)) (h6:=⟨_,rfl,rfl, .inl ⟨36,by unfold Dh;rw[if_neg (by simp[hc1]),if_pos (by omega)],by decide,rfl,rfl⟩⟩)
 have hc2:=bp hb2;refine AA (q_ (w_ (m_ (h:=e_ (Af (q_ (Af (q_ (Af (q_ (q_ (w_ (AN (h:=a_ (h:=e_ (?_))))))))))))))));refine A9 rfl (fun hb3=>?_) (fun hb3=>?_)
 ·have hc3:=bp hb3;refine BH (Ah (Ah (BJ (t_ (?_)))));refine JR (fun h=>∃x y,h.bx=[[.sl 2 (s.files.map Bm) none, .sl 3 (s.mounts.map Cr) none, .sl 1 ((p::ps).map Ci) none,x,y, .v (.int .i64 dr.1), .v (.int .i64 dr.2), .v (.string nm), .v (.bool mi), .v (.bool fl), .v (.int .i64 (lk:Int))]]) 18 (by kernel_rfl) ?_;refine BL (i:=0) rfl rfl (by kernel_rfl) (by first|rfl|exact AM rfl rfl (BC ‹_›)|exact AM rfl rfl (BD ‹_›)|exact AM rfl rfl (by simp[*])) (fun h0 hS=>EE rfl ⟨rfl,rfl⟩) ⟨_,_,rfl⟩ ?_;refine BL (i:=1) rfl rfl (by kernel_rfl) (by first|rfl|exact AM rfl rfl (BC ‹_›)|exact AM rfl rfl (BD ‹_›)|exact AM rfl rfl (by simp[*])) (fun h0 hS=>EE rfl ⟨rfl,rfl⟩) ⟨_,_,rfl⟩ ?_
  first|refine BL (i:=2) rfl rfl (by kernel_rfl) (by first|rfl|exact AM rfl rfl (BC ‹_›)|exact AM rfl rfl (BD ‹_›)|exact AM rfl rfl (by simp[*])) (fun h0 hS=>Fv rfl ⟨rfl,rfl⟩) ⟨_,_,rfl⟩ ?_|refine BL (i:=2) rfl rfl (by kernel_rfl) (by first|rfl|exact AM rfl rfl (BC ‹_›)|exact AM rfl rfl (BD ‹_›)|exact AM rfl rfl (by simp[*])) (fun h0 hS=>Fw rfl ⟨rfl,rfl⟩) ⟨_,_,rfl⟩ ?_
  first|refine BL (i:=3) rfl rfl (by kernel_rfl) (by first|rfl|exact AM rfl rfl (BC ‹_›)|exact AM rfl rfl (BD ‹_›)|exact AM rfl rfl (by simp[*])) (fun h0 hS=>Dy rfl ⟨rfl,rfl⟩) ⟨_,_,rfl⟩ ?_|refine BL (i:=3) rfl rfl (by kernel_rfl) (by first|rfl|exact AM rfl rfl (BC ‹_›)|exact AM rfl rfl (BD ‹_›)|exact AM rfl rfl (by simp[*])) (fun h0 hS=>Fx rfl ⟨rfl,rfl⟩) ⟨_,_,rfl⟩ ?_
  first|refine BL (i:=4) rfl rfl (by kernel_rfl) (by first|rfl|exact AM rfl rfl (BC ‹_›)|exact AM rfl rfl (BD ‹_›)|exact AM rfl rfl (by simp[*])) (fun h0 hS=>by obtain⟨x,y,e⟩:=hS;exact ET (row:=[.sl 2 (s.files.map Bm) none, .sl 3 (s.mounts.map Cr) none, .sl 1 ((p::ps).map Ci) none,x,y, .v (.int .i64 dr.1), .v (.int .i64 dr.2), .v (.string nm), .v (.bool mi), .v (.bool fl), .v (.int .i64 (lk:Int))]) rfl (by rw[e];rfl) rfl (show _=AV.agg (Ag s)∧_ from⟨rfl,rfl⟩)) ⟨_,_,rfl⟩ ?_|refine BL (i:=4) rfl rfl (by kernel_rfl) (by first|rfl|exact AM rfl rfl (BC ‹_›)|exact AM rfl rfl (BD ‹_›)|exact AM rfl rfl (by simp[*])) (fun h0 hS=>Bb rfl rfl rfl ⟨rfl,rfl⟩) ⟨_,_,rfl⟩ ?_|refine BL (i:=4) rfl rfl (by kernel_rfl) (by first|rfl|exact AM rfl rfl (BC ‹_›)|exact AM rfl rfl (BD ‹_›)|exact AM rfl rfl (by simp[*])) (fun h0 hS=>Eu rfl rfl rfl ⟨rfl,rfl⟩) ⟨_,_,rfl⟩ ?_|refine BL (i:=4) rfl rfl (by kernel_rfl) (by first|rfl|exact AM rfl rfl (BC ‹_›)|exact AM rfl rfl (BD ‹_›)|exact AM rfl rfl (by simp[*])) (fun h0 hS=>Fy rfl rfl ⟨rfl,rfl⟩) ⟨_,_,rfl⟩ ?_|refine BL (i:=4) rfl rfl (by kernel_rfl) (by first|rfl|exact AM rfl rfl (BC ‹_›)|exact AM rfl rfl (BD ‹_›)|exact AM rfl rfl (by simp[*])) (fun h0 hS=>Gs rfl rfl ⟨rfl,rfl⟩) ⟨_,_,rfl⟩ ?_|refine BL (i:=4) rfl rfl (by kernel_rfl) (by first|rfl|exact AM rfl rfl (BC ‹_›)|exact AM rfl rfl (BD ‹_›)|exact AM rfl rfl (by simp[*])) (fun h0 hS=>ET rfl rfl rfl ⟨rfl,rfl⟩) ⟨_,_,rfl⟩ ?_|refine BL (i:=4) rfl rfl (by kernel_rfl) (by first|rfl|exact AM rfl rfl (BC ‹_›)|exact AM rfl rfl (BD ‹_›)|exact AM rfl rfl (by simp[*])) (fun h0 hS=>GO rfl rfl ⟨rfl,rfl⟩) ⟨_,_,rfl⟩ ?_
  refine BL (i:=5) rfl rfl (by kernel_rfl) (by first|rfl|exact AM rfl rfl (BC ‹_›)|exact AM rfl rfl (BD ‹_›)|exact AM rfl rfl (by simp[*])) (fun h0 hS=>EE rfl ⟨rfl,rfl⟩) ⟨_,_,rfl⟩ ?_
  first|refine BL (i:=6) rfl rfl (by kernel_rfl) (by first|rfl|exact AM rfl rfl (BC ‹_›)|exact AM rfl rfl (BD ‹_›)|exact AM rfl rfl (by simp[*])) (fun h0 hS=>Fv rfl ⟨rfl,rfl⟩) ⟨_,_,rfl⟩ ?_|refine BL (i:=6) rfl rfl (by kernel_rfl) (by first|rfl|exact AM rfl rfl (BC ‹_›)|exact AM rfl rfl (BD ‹_›)|exact AM rfl rfl (by simp[*])) (fun h0 hS=>Fw rfl ⟨rfl,rfl⟩) ⟨_,_,rfl⟩ ?_
  first|refine BL (i:=7) rfl rfl (by kernel_rfl) (by first|rfl|exact AM rfl rfl (BC ‹_›)|exact AM rfl rfl (BD ‹_›)|exact AM rfl rfl (by simp[*])) (fun h0 hS=>Dy rfl ⟨rfl,rfl⟩) ⟨_,_,rfl⟩ ?_|refine BL (i:=7) rfl rfl (by kernel_rfl) (by first|rfl|exact AM rfl rfl (BC ‹_›)|exact AM rfl rfl (BD ‹_›)|exact AM rfl rfl (by simp[*])) (fun h0 hS=>Fx rfl ⟨rfl,rfl⟩) ⟨_,_,rfl⟩ ?_
  first|refine BL (i:=8) rfl rfl (by kernel_rfl) (by first|rfl|exact AM rfl rfl (BC ‹_›)|exact AM rfl rfl (BD ‹_›)|exact AM rfl rfl (by simp[*])) (fun h0 hS=>by obtain⟨x,y,e⟩:=hS;exact ET (row:=[.sl 2 (s.files.map Bm) none, .sl 3 (s.mounts.map Cr) none, .sl 1 ((p::ps).map Ci) none,x,y, .v (.int .i64 dr.1), .v (.int .i64 dr.2), .v (.string nm), .v (.bool mi), .v (.bool fl), .v (.int .i64 (lk:Int))]) rfl (by rw[e];rfl) rfl (show _=AV.agg (Ag s)∧_ from⟨rfl,rfl⟩)) ⟨_,_,rfl⟩ ?_|refine BL (i:=8) rfl rfl (by kernel_rfl) (by first|rfl|exact AM rfl rfl (BC ‹_›)|exact AM rfl rfl (BD ‹_›)|exact AM rfl rfl (by simp[*])) (fun h0 hS=>Bb rfl rfl rfl ⟨rfl,rfl⟩) ⟨_,_,rfl⟩ ?_|refine BL (i:=8) rfl rfl (by kernel_rfl) (by first|rfl|exact AM rfl rfl (BC ‹_›)|exact AM rfl rfl (BD ‹_›)|exact AM rfl rfl (by simp[*])) (fun h0 hS=>Eu rfl rfl rfl ⟨rfl,rfl⟩) ⟨_,_,rfl⟩ ?_|refine BL (i:=8) rfl rfl (by kernel_rfl) (by first|rfl|exact AM rfl rfl (BC ‹_›)|exact AM rfl rfl (BD ‹_›)|exact AM rfl rfl (by simp[*])) (fun h0 hS=>Fy rfl rfl ⟨rfl,rfl⟩) ⟨_,_,rfl⟩ ?_|refine BL (i:=8) rfl rfl (by kernel_rfl) (by first|rfl|exact AM rfl rfl (BC ‹_›)|exact AM rfl rfl (BD ‹_›)|exact AM rfl rfl (by simp[*])) (fun h0 hS=>Gs rfl rfl ⟨rfl,rfl⟩) ⟨_,_,rfl⟩ ?_|refine BL (i:=8) rfl rfl (by kernel_rfl) (by first|rfl|exact AM rfl rfl (BC ‹_›)|exact AM rfl rfl (BD ‹_›)|exact AM rfl rfl (by simp[*])) (fun h0 hS=>ET rfl rfl rfl ⟨rfl,rfl⟩) ⟨_,_,rfl⟩ ?_|refine BL (i:=8) rfl rfl (by kernel_rfl) (by first|rfl|exact AM rfl rfl (BC ‹_›)|exact AM rfl rfl (BD ‹_›)|exact AM rfl rfl (by simp[*])) (fun h0 hS=>GO rfl rfl ⟨rfl,rfl⟩) ⟨_,_,rfl⟩ ?_
  refine BL (i:=9) rfl rfl (by kernel_rfl) (by first|rfl|exact AM rfl rfl (BC ‹_›)|exact AM rfl rfl (BD ‹_›)|exact AM rfl rfl (by simp[*])) (fun h0 hS=>EE rfl ⟨rfl,rfl⟩) ⟨_,_,rfl⟩ ?_
  first|refine BL (i:=10) rfl rfl (by kernel_rfl) (by first|rfl|exact AM rfl rfl (BC ‹_›)|exact AM rfl rfl (BD ‹_›)|exact AM rfl rfl (by simp[*])) (fun h0 hS=>Fv rfl ⟨rfl,rfl⟩) ⟨_,_,rfl⟩ ?_|refine BL (i:=10) rfl rfl (by kernel_rfl) (by first|rfl|exact AM rfl rfl (BC ‹_›)|exact AM rfl rfl (BD ‹_›)|exact AM rfl rfl (by simp[*])) (fun h0 hS=>Fw rfl ⟨rfl,rfl⟩) ⟨_,_,rfl⟩ ?_
  first|refine BL (i:=11) rfl rfl (by kernel_rfl) (by first|rfl|exact AM rfl rfl (BC ‹_›)|exact AM rfl rfl (BD ‹_›)|exact AM rfl rfl (by simp[*])) (fun h0 hS=>Dy rfl ⟨rfl,rfl⟩) ⟨_,_,rfl⟩ ?_|refine BL (i:=11) rfl rfl (by kernel_rfl) (by first|rfl|exact AM rfl rfl (BC ‹_›)|exact AM rfl rfl (BD ‹_›)|exact AM rfl rfl (by simp[*])) (fun h0 hS=>Fx rfl ⟨rfl,rfl⟩) ⟨_,_,rfl⟩ ?_
  first|refine c_ 12 rfl (Bb rfl rfl rfl ?_)|refine c_ 12 rfl (Eu rfl rfl rfl ?_)|refine c_ 12 rfl (Fy rfl rfl ?_)|refine c_ 12 rfl (Gs rfl rfl ?_)|refine c_ 12 rfl (ET rfl rfl rfl ?_)|refine c_ 12 rfl (GO rfl rfl ?_)
  refine⟨.inr ⟨_,_,rfl⟩,?_⟩;refine c_ 13 rfl (AE (ZR hs hv a) ?_);rintro r rfl;refine⟨.inr ⟨_,_,rfl⟩,?_⟩;refine c_ 14 rfl (AE (Oh s (D8 s (s.mounts.length+1) a) hs) ?_);rintro r rfl;refine⟨.inr ⟨_,_,rfl⟩,?_⟩
  first|refine BL (i:=15) rfl rfl (by kernel_rfl) (by first|rfl|exact AM rfl rfl (BC ‹_›)|exact AM rfl rfl (BD ‹_›)|exact AM rfl rfl (by simp[*])) (fun h0 hS=>Fv rfl ⟨rfl,rfl⟩) ⟨_,_,rfl⟩ ?_|refine BL (i:=15) rfl rfl (by kernel_rfl) (by first|rfl|exact AM rfl rfl (BC ‹_›)|exact AM rfl rfl (BD ‹_›)|exact AM rfl rfl (by simp[*])) (fun h0 hS=>Fw rfl ⟨rfl,rfl⟩) ⟨_,_,rfl⟩ ?_
  first|refine BL (i:=16) rfl rfl (by kernel_rfl) (by first|rfl|exact AM rfl rfl (BC ‹_›)|exact AM rfl rfl (BD ‹_›)|exact AM rfl rfl (by simp[*])) (fun h0 hS=>Dy rfl ⟨rfl,rfl⟩) ⟨_,_,rfl⟩ ?_|refine BL (i:=16) rfl rfl (by kernel_rfl) (by first|rfl|exact AM rfl rfl (BC ‹_›)|exact AM rfl rfl (BD ‹_›)|exact AM rfl rfl (by simp[*])) (fun h0 hS=>Fx rfl ⟨rfl,rfl⟩) ⟨_,_,rfl⟩ ?_
  refine Bi 17 rfl (Ba rfl rfl rfl rfl rfl rfl (by repeat constructor) (by repeat constructor) ?_);refine⟨.inr ⟨_,_,rfl⟩,?_⟩;refine z_ (h:=Ai (t_ (q_ (w_ (m_ (h:=m_ (h:=m_ (h:=m_ (h:=Ab (h:=k_ (h:=f_ (h:=s_ (h:=k_ (h:=f_ (h:=s_ (h:=k_ (h:=f_ (h:=s_ (h:=e_ (w_ (a_ (h:=e_ (A4 (?_))))))))))))))))))))))));refine A7 (AR (A7 (?_)));refine Am none (h5:=(AZ _)) (h6:=⟨_,rfl,rfl, .inr ⟨⟨ps,CZ s s.mounts.length (D8 s (s.mounts.length+1) a),(0,0),⟨#[]⟩,mi,lk⟩,by unfold Dh;rw[if_neg (by simp[hc1]),if_neg (by omega),if_pos hc3],rfl,rfl⟩⟩)
 have hc3:=bp hb3;refine AA (w_ (AN (h:=a_ (h:=e_ (?_)))));refine A9 rfl (fun hb4=>?_) (fun hb4=>?_)
 ·have hc4:=bp hb4;refine BH (Ah (KM rfl (Ah (BJ (t_ (q_ (w_ (m_ (h:=m_ (h:=m_ (h:=m_ (h:=Ab (h:=k_ (h:=f_ (h:=s_ (h:=k_ (h:=f_ (h:=s_ (h:=k_ (h:=f_ (h:=s_ (h:=e_ (w_ (?_))))))))))))))))))))))));refine a_ (h:=e_ (A4 (A7 (AR (A7 (?_))))));refine Am none (h5:=(AZ _)) (h6:=⟨_,rfl,rfl, .inr ⟨⟨ps,a,(0,0),⟨#[]⟩,mi,lk⟩,by unfold Dh;rw[if_neg (by simp[hc1]),if_neg (by omega),if_neg hc3,if_pos hc4],rfl,rfl⟩⟩)
 have hc4:=bp hb4;refine AA (BH (KM rfl (Ah (KM rfl (Ah (BJ (t_ (q_ (w_ (m_ (h:=?_)))))))))));refine A6 rfl (AE (Tt p) ?_);rintro r rfl;refine B7 (h:=e_ (?_));refine A9 rfl (fun hb5=>?_) (fun hb5=>?_)
 ·have hc5:=bp hb5;refine w_ (a_ (h:=e_ (A4 (A7 (?_)))));refine Am none (h5:=(AZ _)) (h6:=⟨_,rfl,rfl, .inl ⟨2,by unfold Dh;rw[if_neg (by simp[hc1]),if_neg (by omega),if_neg hc3,if_neg hc4,if_pos hc5],by decide,rfl,rfl⟩⟩)
 have hc5:=bp hb5;refine AA (?_);refine EU (⟨look [(0, .bp 0 0),(3, .v (.string p)),(4, .sl 1 (ps.map Ci) none),(5, .bp 1 0),(6, .v (.int .i64 (AQ s.files a p).2))],⟨[Di s fl ⟨p::ps,a,dr,nm,mi,lk⟩,AF (AQ s.files a p).1],[]⟩⟩) ?_ ?_
 ·skip
  refine CB ([(0,Di s fl ⟨p::ps,a,dr,nm,mi,lk⟩)]) 17 (h:=Ap 0 (h:=Du 1 (h:=Az 2 (h:=Az 3 (h:=AY 4 (h:=Ap 5 (h:=Du 6 (h:=Az 7 (h:=AY 8 (h:=Ap 9 (h:=?_)))))))))));refine G6 10 14 rfl rfl ?_ ?_
  ·refine AE (Q9 s.files a p hs.files) ?_;rintro r rfl;refine o_ (h:=?_);refine Ap 11 (h:=Bw 12 (h:=Bw 13 (h:=?_)));refine c_ 14 rfl (Dt (by repeat constructor) ?_);refine o_ (h:=?_);refine Bi 15 rfl (Ba rfl rfl rfl rfl rfl rfl (by repeat constructor) (by repeat constructor) ?_);refine o_ (h:=BN 16 (h:=z_ (h:=?_)));refine AK ?_
   first|(exfalso;first|contradiction|omega)|exact Ay 2 0 rfl rfl rfl rfl (by repeat (first|exact Sub.nil|refine B0 rfl rfl ?_|refine B2 ?_|refine B3 rfl ?_|refine B4 rfl ?_|(apply Sub.of;(focus exact rfl);(focus exact LeA.of_eq (vb (by rfl)));(focus exact rfl))))
  refine Dt (by repeat constructor) ?_;refine o_ (h:=?_);refine c_ 10 rfl (AE (Q9 s.files a p hs.files) ?_);rintro r rfl;refine o_ (h:=Ap 11 (h:=Bw 12 (h:=Bw 13 (h:=?_))));refine Bi 15 rfl (Ba rfl rfl rfl rfl rfl rfl (by repeat constructor) (by repeat constructor) ?_);refine o_ (h:=BN 16 (h:=z_ (h:=?_)));refine AK ?_
  first|(exfalso;first|contradiction|omega)|exact Ay 2 0 rfl rfl rfl rfl (by repeat (first|exact Sub.nil|refine B0 rfl rfl ?_|refine B2 ?_|refine B3 rfl ?_|refine B4 rfl ?_|(apply Sub.of;(focus exact rfl);(focus exact LeA.of_eq (vb (by rfl)));(focus exact rfl))))
 skip
 refine q_ (w_ (m_ (h:=Aj (h:=e_ (?_)))));refine A9 rfl (fun hb6=>?_) (fun hb6=>?_)
 ·have hc6:=bp hb6;refine q_ (w_ (m_ (h:=n_ (h:=Bf (h:=e_ (?_))))));refine A9 rfl (fun hb7=>?_) (fun hb7=>?_)
  ·have hc7:=bp hb7;have hps:ps≠[]:=fun e=>by rw[e]at hml hc7;simp at hc7
   refine w_ (a_ (h:=e_ (A4 (A7 (A7 (?_))))));refine Am none (h5:=(AZ _)) (h6:=⟨_,rfl,rfl, .inl ⟨2,by unfold Dh;rw[if_neg (by simp[hc1]),if_neg (by omega),if_neg hc3,if_neg hc4,if_neg (by simp[hc5]),if_pos hc6,if_pos hps],by decide,rfl,rfl⟩⟩)
  have hc7:=bp hb7;have hps:¬ps≠[]:=fun e=>e (Cp (by omega));refine AA (w_ (m_ (h:=m_ (h:=m_ (h:=m_ (h:=m_ (h:=m_ (h:=k_ (h:=f_ (h:=l_ (h:=m_ (h:=k_ (h:=f_ (h:=s_ (h:=k_ (h:=f_ (h:=s_ (h:=k_ (h:=f_ (h:=s_ (h:=k_ (h:=f_ (h:=s_ (h:=?_))))))))))))))))))))))));refine e_ (w_ (a_ (h:=e_ (A4 (A7 (?_))))));refine Am none (h5:=(AZ _)) (h6:=⟨_,rfl,rfl, .inr ⟨⟨ps,a,a,p,true,lk⟩,by unfold Dh;rw[if_neg (by simp[hc1]),if_neg (by omega),if_neg hc3,if_neg hc4,if_neg (by simp[hc5]),if_pos hc6,if_neg hps],rfl,rfl⟩⟩)
 have hc6:=bp hb6;refine AA (?_);refine EU (⟨look [(0, .bp 0 0),(3, .v (.string p)),(4, .sl 1 (ps.map Ci) none),(5, .bp 1 0),(7, .bp 2 0)],⟨[Di s fl ⟨p::ps,a,dr,nm,mi,lk⟩,AF (AQ s.files a p).1,Ao (At s.files (AQ s.files a p).1)],[]⟩⟩) ?_ ?_
 ·skip
  refine CB ([(0,Di s fl ⟨p::ps,a,dr,nm,mi,lk⟩),(1,AF (AQ s.files a p).1)]) 13 (h:=Ap 0 (h:=Du 1 (h:=Az 2 (h:=Az 3 (h:=AY 4 (h:=AY 5 (h:=?_)))))));refine G6 6 10 rfl rfl ?_ ?_
  ·refine AE (GA s.files (AQ s.files a p).1 hs.files) ?_;rintro r rfl;refine o_ (h:=?_);refine Ap 7 (h:=Bw 8 (h:=Bw 9 (h:=?_)));refine c_ 10 rfl (Dt (by repeat constructor) ?_);refine o_ (h:=?_);refine Bi 11 rfl (Ba rfl rfl rfl rfl rfl rfl (by repeat constructor) (by repeat constructor) ?_);refine o_ (h:=BN 12 (h:=z_ (h:=?_)));refine AK ?_
   first|(exfalso;first|contradiction|omega)|exact Ay 3 0 rfl rfl rfl rfl (by repeat (first|exact Sub.nil|refine B0 rfl rfl ?_|refine B2 ?_|refine B3 rfl ?_|refine B4 rfl ?_|(apply Sub.of;(focus exact rfl);(focus exact LeA.of_eq (vb (by rfl)));(focus exact rfl))))
  refine Dt (by repeat constructor) ?_;refine o_ (h:=?_);refine c_ 6 rfl (AE (GA s.files (AQ s.files a p).1 hs.files) ?_);rintro r rfl;refine o_ (h:=Ap 7 (h:=Bw 8 (h:=Bw 9 (h:=?_))));refine Bi 11 rfl (Ba rfl rfl rfl rfl rfl rfl (by repeat constructor) (by repeat constructor) ?_);refine o_ (h:=BN 12 (h:=z_ (h:=?_)));refine AK ?_
  first|(exfalso;first|contradiction|omega)|exact Ay 3 0 rfl rfl rfl rfl (by repeat (first|exact Sub.nil|refine B0 rfl rfl ?_|refine B2 ?_|refine B3 rfl ?_|refine B4 rfl ?_|(apply Sub.of;(focus exact rfl);(focus exact LeA.of_eq (vb (by rfl)));(focus exact rfl))))
 skip
 refine q_ (?_);refine EU (⟨look [(0, .bp 0 0),(3, .v (.string p)),(4, .sl 1 (ps.map Ci) none),(5, .bp 1 0),(7, .bp 2 0),(122, .v (.bool (decide ((At s.files (AQ s.files a p).1).kind=3)&&(decide (0<((ps.map Ci).length:Int))||fl))))],⟨[Di s fl ⟨p::ps,a,dr,nm,mi,lk⟩,AF (AQ s.files a p).1,Ao (At s.files (AQ s.files a p).1)],[]⟩⟩) ?_ ?_
 ·skip
  refine AT (f_ (h:=l_ (h:=AN (h:=m_ (h:=?_)))));refine AU true rfl rfl (fun hb8=>?_) (fun hb8=>?_)
  ·have hc8:=bp hb8;refine m_ (h:=n_ (h:=Bf (h:=m_ (h:=?_))));refine AU false rfl rfl (fun hb9=>?_) (fun hb9=>?_)
   ·have hc9:=bp hb9;refine A3 (h:=A3 (h:=A3 (h:=A3 (h:=AD (h:=AD (h:=AP (?_)))))));refine AK ?_
    first|(exfalso;first|contradiction|omega)|exact Ay 3 0 rfl rfl rfl rfl (by repeat (first|exact Sub.nil|refine B0 rfl rfl ?_|refine B2 ?_|refine B3 rfl ?_|refine B4 rfl ?_|(apply Sub.of;(focus exact rfl);(focus exact LeA.of_eq (vb (by first|(rw[hb8];rfl)|(rw[hb8,hb9];rfl))));(focus exact rfl))))
   have hc9:=bp hb9;refine m_ (h:=k_ (h:=f_ (h:=l_ (h:=AG (h:=AD (h:=AP (?_)))))));refine AK ?_
   first|(exfalso;first|contradiction|omega)|exact Ay 3 0 rfl rfl rfl rfl (by repeat (first|exact Sub.nil|refine B0 rfl rfl ?_|refine B2 ?_|refine B3 rfl ?_|refine B4 rfl ?_|(apply Sub.of;(focus exact rfl);(focus exact LeA.of_eq (vb (by first|(rw[hb8];rfl)|(rw[hb8,hb9];rfl))));(focus exact rfl))))
  have hc8:=bp hb8;refine A3 (h:=A3 (h:=A3 (h:=A3 (h:=AX (h:=AX (h:=AX (h:=AX (h:=A3 (h:=AG (h:=AP (?_)))))))))));refine AK ?_
  first|(exfalso;first|contradiction|omega)|exact Ay 3 0 rfl rfl rfl rfl (by repeat (first|exact Sub.nil|refine B0 rfl rfl ?_|refine B2 ?_|refine B3 rfl ?_|refine B4 rfl ?_|(apply Sub.of;(focus exact rfl);(focus exact LeA.of_eq (vb (by first|(rw[hb8];rfl)|(rw[hb8,hb9];rfl))));(focus exact rfl))))
 skip
 refine A9 rfl (fun hb10=>?_) (fun hb10=>?_)
 ·have hc10:=bp hb10
  have hlk:(At s.files (AQ s.files a p).1).kind=3∧(ps≠[]∨fl=true):=by
   simp only[Bool.and_eq_true,Bool.or_eq_true,decide_eq_true_eq]at hc10;exact⟨hc10.1,hc10.2.imp (fun h e=>by rw[e]at h;simp at h) id⟩
  refine w_ (m_ (h:=f_ (h:=l_ (h:=m_ (h:=?_)))));refine A6 rfl (OD 0 rfl (by repeat (first|exact ArgsB.nil|refine ArgsB.cons _ _ _ _ _ rfl rfl ?_)) rfl rfl (bU s fl ⟨p::ps,a,dr,nm,mi,lk⟩ (At s.files (AQ s.files a p).1).target ps hs h8 (by omega) hrl) ?_);rintro r row2 (⟨h9,rfl,rfl⟩|⟨h9,rfl,rfl⟩)
  ·refine⟨NV _ _ _,rfl,_,(by repeat constructor),?_⟩;refine a_ (h:=e_ (A4 (A7 (?_))));refine Am none (h5:=(AZ _)) (h6:=⟨_,rfl,rfl, .inl ⟨40,by unfold Dh;rw[if_neg (by simp[hc1]),if_neg (by omega),if_neg hc3,if_neg hc4,if_neg (by simp[hc5]),if_neg (by simp[hc6]),if_pos hlk,if_pos h9],by decide,rfl,rfl⟩⟩)
  refine⟨NV _ _ _,rfl,_,(by repeat constructor),?_⟩;refine a_ (h:=e_ (A4 (A7 (?_))));refine Am none (h5:=(AZ _)) (h6:=⟨_,rfl,rfl, .inr ⟨NU s (At s.files (AQ s.files a p).1).target ps ⟨p::ps,a,dr,nm,mi,lk⟩,by unfold Dh;rw[if_neg (by simp[hc1]),if_neg (by omega),if_neg hc3,if_neg hc4,if_neg (by simp[hc5]),if_neg (by simp[hc6]),if_pos hlk,if_neg h9];rfl,rfl,rfl⟩⟩)
 have hc10:=bp hb10
 have hlk:¬((At s.files (AQ s.files a p).1).kind=3∧(ps≠[]∨fl=true)):=fun h=>by
  rw[decide_eq_true h.1,Bool.true_and,Bool.or_eq_false_iff]at hc10;rcases h.2 with e|e
  ·exact e (Cp (by have:=of_decide_eq_false hc10.1;omega))
  rw[hc10.2]at e;cases e
 refine AA (w_ (m_ (h:=m_ (h:=m_ (h:=m_ (h:=m_ (h:=k_ (h:=f_ (h:=l_ (h:=m_ (h:=k_ (h:=f_ (h:=s_ (h:=k_ (h:=f_ (h:=s_ (h:=k_ (h:=f_ (h:=s_ (h:=e_ (q_ (?_))))))))))))))))))))));refine JR (fun h=>∃x y r,h.bx=[[.sl 2 (s.files.map Bm) none, .sl 3 (s.mounts.map Cr) none, .sl 1 (ps.map Ci) none,x,y, .v (.int .i64 a.1), .v (.int .i64 a.2), .v (.string p), .v (.bool mi), .v (.bool fl), .v (.int .i64 (lk:Int))],AF (AQ s.files a p).1]++r) 10 (by kernel_rfl) ?_;refine BL (i:=0) rfl rfl (by kernel_rfl) (by first|rfl|exact AM rfl rfl (BC ‹_›)|exact AM rfl rfl (BD ‹_›)|exact AM rfl rfl (by simp[*])) (fun h0 hS=>EE rfl ⟨rfl,rfl⟩) ⟨_,_,_,rfl⟩ ?_;refine BL (i:=1) rfl rfl (by kernel_rfl) (by first|rfl|exact AM rfl rfl (BC ‹_›)|exact AM rfl rfl (BD ‹_›)|exact AM rfl rfl (by simp[*])) (fun h0 hS=>EE rfl ⟨rfl,rfl⟩) ⟨_,_,_,rfl⟩ ?_
 first|refine BL (i:=2) rfl rfl (by kernel_rfl) (by first|rfl|exact AM rfl rfl (BC ‹_›)|exact AM rfl rfl (BD ‹_›)|exact AM rfl rfl (by simp[*])) (fun h0 hS=>Fv rfl ⟨rfl,rfl⟩) ⟨_,_,_,rfl⟩ ?_|refine BL (i:=2) rfl rfl (by kernel_rfl) (by first|rfl|exact AM rfl rfl (BC ‹_›)|exact AM rfl rfl (BD ‹_›)|exact AM rfl rfl (by simp[*])) (fun h0 hS=>Fw rfl ⟨rfl,rfl⟩) ⟨_,_,_,rfl⟩ ?_
 first|refine BL (i:=3) rfl rfl (by kernel_rfl) (by first|rfl|exact AM rfl rfl (BC ‹_›)|exact AM rfl rfl (BD ‹_›)|exact AM rfl rfl (by simp[*])) (fun h0 hS=>Dy rfl ⟨rfl,rfl⟩) ⟨_,_,_,rfl⟩ ?_|refine BL (i:=3) rfl rfl (by kernel_rfl) (by first|rfl|exact AM rfl rfl (BC ‹_›)|exact AM rfl rfl (BD ‹_›)|exact AM rfl rfl (by simp[*])) (fun h0 hS=>Fx rfl ⟨rfl,rfl⟩) ⟨_,_,_,rfl⟩ ?_
 first|refine BL (i:=4) rfl rfl (by kernel_rfl) (by first|rfl|exact AM rfl rfl (BC ‹_›)|exact AM rfl rfl (BD ‹_›)|exact AM rfl rfl (by simp[*])) (fun h0 hS=>by obtain⟨x,y,r,e⟩:=hS;exact ET (row:=[.sl 2 (s.files.map Bm) none, .sl 3 (s.mounts.map Cr) none, .sl 1 (ps.map Ci) none,x,y, .v (.int .i64 a.1), .v (.int .i64 a.2), .v (.string p), .v (.bool mi), .v (.bool fl), .v (.int .i64 (lk:Int))]) rfl (by rw[e];rfl) rfl (show _=AV.agg (Ag s)∧_ from⟨rfl,rfl⟩)) ⟨_,_,_,rfl⟩ ?_|refine BL (i:=4) rfl rfl (by kernel_rfl) (by first|rfl|exact AM rfl rfl (BC ‹_›)|exact AM rfl rfl (BD ‹_›)|exact AM rfl rfl (by simp[*])) (fun h0 hS=>by obtain⟨x,y,r,e⟩:=hS;exact Eu (row:=AF (AQ s.files a p).1) rfl (by rw[e];rfl) rfl ⟨rfl,rfl⟩) ⟨_,_,_,rfl⟩ ?_|refine BL (i:=4) rfl rfl (by kernel_rfl) (by first|rfl|exact AM rfl rfl (BC ‹_›)|exact AM rfl rfl (BD ‹_›)|exact AM rfl rfl (by simp[*])) (fun h0 hS=>Bb rfl rfl rfl ⟨rfl,rfl⟩) ⟨_,_,_,rfl⟩ ?_|refine BL (i:=4) rfl rfl (by kernel_rfl) (by first|rfl|exact AM rfl rfl (BC ‹_›)|exact AM rfl rfl (BD ‹_›)|exact AM rfl rfl (by simp[*])) (fun h0 hS=>Eu rfl rfl rfl ⟨rfl,rfl⟩) ⟨_,_,_,rfl⟩ ?_|refine BL (i:=4) rfl rfl (by kernel_rfl) (by first|rfl|exact AM rfl rfl (BC ‹_›)|exact AM rfl rfl (BD ‹_›)|exact AM rfl rfl (by simp[*])) (fun h0 hS=>Fy rfl rfl ⟨rfl,rfl⟩) ⟨_,_,_,rfl⟩ ?_|refine BL (i:=4) rfl rfl (by kernel_rfl) (by first|rfl|exact AM rfl rfl (BC ‹_›)|exact AM rfl rfl (BD ‹_›)|exact AM rfl rfl (by simp[*])) (fun h0 hS=>Gs rfl rfl ⟨rfl,rfl⟩) ⟨_,_,_,rfl⟩ ?_|refine BL (i:=4) rfl rfl (by kernel_rfl) (by first|rfl|exact AM rfl rfl (BC ‹_›)|exact AM rfl rfl (BD ‹_›)|exact AM rfl rfl (by simp[*])) (fun h0 hS=>ET rfl rfl rfl ⟨rfl,rfl⟩) ⟨_,_,_,rfl⟩ ?_|refine BL (i:=4) rfl rfl (by kernel_rfl) (by first|rfl|exact AM rfl rfl (BC ‹_›)|exact AM rfl rfl (BD ‹_›)|exact AM rfl rfl (by simp[*])) (fun h0 hS=>GO rfl rfl ⟨rfl,rfl⟩) ⟨_,_,_,rfl⟩ ?_
 first|refine BL (i:=5) rfl rfl (by kernel_rfl) (by first|rfl|exact AM rfl rfl (BC ‹_›)|exact AM rfl rfl (BD ‹_›)|exact AM rfl rfl (by simp[*])) (fun h0 hS=>by obtain⟨x,y,r,e⟩:=hS;exact ET (row:=[.sl 2 (s.files.map Bm) none, .sl 3 (s.mounts.map Cr) none, .sl 1 (ps.map Ci) none,x,y, .v (.int .i64 a.1), .v (.int .i64 a.2), .v (.string p), .v (.bool mi), .v (.bool fl), .v (.int .i64 (lk:Int))]) rfl (by rw[e];rfl) rfl (show _=AV.agg (Ag s)∧_ from⟨rfl,rfl⟩)) ⟨_,_,_,rfl⟩ ?_|refine BL (i:=5) rfl rfl (by kernel_rfl) (by first|rfl|exact AM rfl rfl (BC ‹_›)|exact AM rfl rfl (BD ‹_›)|exact AM rfl rfl (by simp[*])) (fun h0 hS=>by obtain⟨x,y,r,e⟩:=hS;exact Eu (row:=AF (AQ s.files a p).1) rfl (by rw[e];rfl) rfl ⟨rfl,rfl⟩) ⟨_,_,_,rfl⟩ ?_|refine BL (i:=5) rfl rfl (by kernel_rfl) (by first|rfl|exact AM rfl rfl (BC ‹_›)|exact AM rfl rfl (BD ‹_›)|exact AM rfl rfl (by simp[*])) (fun h0 hS=>Eu rfl rfl rfl ⟨rfl,rfl⟩) ⟨_,_,_,rfl⟩ ?_
 refine c_ 6 rfl (AE (Oh s (AQ s.files a p).1 hs) ?_);rintro r rfl;refine⟨.inr ⟨_,_,_,rfl⟩,?_⟩
 first|refine BL (i:=7) rfl rfl (by kernel_rfl) (by first|rfl|exact AM rfl rfl (BC ‹_›)|exact AM rfl rfl (BD ‹_›)|exact AM rfl rfl (by simp[*])) (fun h0 hS=>Fv rfl ⟨rfl,rfl⟩) ⟨_,_,_,rfl⟩ ?_|refine BL (i:=7) rfl rfl (by kernel_rfl) (by first|rfl|exact AM rfl rfl (BC ‹_›)|exact AM rfl rfl (BD ‹_›)|exact AM rfl rfl (by simp[*])) (fun h0 hS=>Fw rfl ⟨rfl,rfl⟩) ⟨_,_,_,rfl⟩ ?_
 first|refine BL (i:=8) rfl rfl (by kernel_rfl) (by first|rfl|exact AM rfl rfl (BC ‹_›)|exact AM rfl rfl (BD ‹_›)|exact AM rfl rfl (by simp[*])) (fun h0 hS=>Dy rfl ⟨rfl,rfl⟩) ⟨_,_,_,rfl⟩ ?_|refine BL (i:=8) rfl rfl (by kernel_rfl) (by first|rfl|exact AM rfl rfl (BC ‹_›)|exact AM rfl rfl (BD ‹_›)|exact AM rfl rfl (by simp[*])) (fun h0 hS=>Fx rfl ⟨rfl,rfl⟩) ⟨_,_,_,rfl⟩ ?_
 refine Bi 9 rfl (Ba rfl rfl rfl rfl rfl rfl (by repeat constructor) (by repeat constructor) ?_);refine⟨.inr ⟨_,_,_,rfl⟩,?_⟩;refine z_ (h:=t_ (w_ (a_ (h:=e_ (A4 (?_))))));refine Am none (h5:=(AZ _)) (h6:=⟨_,rfl,rfl, .inr ⟨⟨ps,CZ s s.mounts.length (AQ s.files a p).1,a,p,mi,lk⟩,by unfold Dh;rw[if_neg (by simp[hc1]),if_neg (by omega),if_neg hc3,if_neg hc4,if_neg (by simp[hc5]),if_neg (by simp[hc6]),if_neg hlk],rfl,rfl⟩⟩)
end
theorem bW{s:Spc}(hv:SpcV s):Aq s.files (Cs s)=true:=(K7 ((LX hv _).1 (LY hv (Q6 hv (Pv hv (Int.le_refl 0) (by have:=hv.pos;omega))))).1.1).1
theorem bY{s:Spc}(fl:Bool){p:AJ}{ps:List AJ}{w w':Wk}(hn:w.name.size≤12)(h:Dh s fl p ps w= .inr w'):w'.name.size≤12:=by
 unfold Dh at h;split at h
 ·cases h
 split at h
 ·cases h
 rename_i h2;split at h
 ·injection h with h;subst h;exact BO _
 split at h
 ·injection h with h;subst h;exact BO _
 split at h
 ·cases h
 split at h
 ·split at h
  ·cases h
  injection h with h;subst h;exact Nat.le_of_not_lt h2
 split at h
 ·split at h
  ·cases h
  injection h with h;subst h;show ByteArray.size (if _ then _ else _)≤12;split
  ·exact BO _
  exact hn
 injection h with h;subst h;exact Nat.le_of_not_lt h2
theorem QB{s:Spc}(hv:FlsV s.files)(fl:Bool){p:AJ}{ps:List AJ}{w w':Wk}(hl:w.links≤8)(h:Dh s fl p ps w= .inr w'):w'.links≤8∧(8 - w'.links) * 200+w'.ps.length<(8 - w.links) * 200+(ps.length+1):=by
 unfold Dh at h;split at h
 ·cases h
 split at h
 ·cases h
 split at h
 ·injection h with h;subst h;exact⟨hl,by simp only;omega⟩
 split at h
 ·injection h with h;subst h;exact⟨hl,by simp only;omega⟩
 split at h
 ·cases h
 split at h
 ·split at h
  ·cases h
  injection h with h;subst h;exact⟨hl,by simp only;omega⟩
 split at h
 ·split at h
  ·cases h
  rename_i h9;injection h with h;subst h;have ht:=LM hv (AQ s.files w.at_ p).1;have hs:=K8 (At s.files (AQ s.files w.at_ p).1).target;refine⟨by simp only;omega,?_⟩;simp only[List.length_append]
  have:(8 - w.links) * 200=(8 - (w.links+1)) * 200+200:=by
   rw[show 8 - w.links=(8 - (w.links+1))+1 by omega,Nat.add_mul]
  omega
 injection h with h;subst h;exact⟨hl,by simp only;omega⟩
theorem U8{s:Spc}{start:AB}{p:AJ}{fl:Bool}(h1:¬p=⟨#[]⟩)(h2:128<p.size):By s start p fl=(DL,36):=by unfold By;rw[if_neg h1,if_pos h2]
section
variable {s:Spc}{start a:AB}{p:AJ}{fl:Bool}(h1:¬p=⟨#[]⟩)(h2:¬128<p.size)(ha:(if Ce p=true then Cs s else start)=a)
include h1 h2 ha
theorem U9(hd:Aq s.files a=false):By s start p fl=(DL,2):=by
 unfold By;rw[if_neg h1,if_neg h2,ha,if_pos hd]
variable (hd:Aq s.files a=true)
include hd
theorem KA{e:Int}{τ:Lk}(h:DM s (fl||BB p) (Em (CT p) a)=(e,τ))(he:e≠0):By s start p fl=(DL,e):=by
 unfold By;rw[if_neg h1,if_neg h2,ha,if_neg (by simp[hd]),h,if_pos he]
theorem UA{τ:Lk}(h:DM s (fl||BB p) (Em (CT p) a)=(0,τ))(hs:BB p=true∧τ.ex=true∧Aq s.files τ.file=false):By s start p fl=(DL,20):=by
 unfold By;rw[if_neg h1,if_neg h2,ha,if_neg (by simp[hd]),h,if_neg (by simp),if_pos hs]
theorem NW{τ:Lk}(h:DM s (fl||BB p) (Em (CT p) a)=(0,τ))(hs:¬(BB p=true∧τ.ex=true∧Aq s.files τ.file=false)):By s start p fl=(FC s (BB p) τ,0):=by
 unfold By;rw[if_neg h1,if_neg h2,ha,if_neg (by simp[hd]),h,if_neg (by simp),if_neg hs]
end
theorem bZ(ps:List AJ)(a d:AB)(hd:ps=[]→True):Sim ⟨ps,a,d,⟨#[]⟩,false,0⟩ (Em ps a):=by
 have _:=hd;exact⟨rfl,rfl,rfl,fun _=>rfl,fun h=>(by cases h),fun _ _=>⟨fun _=>⟨rfl,rfl⟩,fun h=>absurd rfl h⟩⟩
def NX(s:Spc)(F:Bool)(σ0:Lk)(w:Wk):Prop:=w.links≤8∧w.name.size≤12∧∃σ,Sim w σ∧DM s F σ=DM s F σ0
theorem UB{s:Spc}(hv:SpcV s){F:Bool}{σ0:Lk}{w:Wk}{p:AJ}{ps:List AJ}(hps:w.ps=p::ps)(h:NX s F σ0 w):(∀e,Dh s F p ps w= .inl e→DM s F σ0=(e,LV))∧∀w',Dh s F p ps w= .inr w'→NX s F σ0 w':=by
 obtain⟨h8,hn,σ,hS,hT⟩:=h
 have hm:w.missing=false:=by
  cases hm:w.missing with
  |false=>rfl
  |true=>have:=(hS.gone hm).2.1;rw[hps]at this;cases this
 have h8σ:σ.links≤8:=by rw[←hS.links];exact h8
 have hc:=Tj hv.files (fl:=F) h8σ (hS.ps.symm.trans hps);rcases aK hv F (p:=p) (ps:=ps) hS hm with⟨e,q1,q2⟩|⟨w1,τ,q1,q2,q3⟩
 ·refine⟨fun e' he=>?_,fun w' hw=>by rw[q1]at hw;cases hw⟩;rw[q1]at he;injection he with he;subst he;rw[←hT,hc,q2]
 refine⟨fun e' he=>by(rw[q1]at he;cases he),fun w' hw=>?_⟩;have k1:=QB hv.files F h8 hw;have k2:=bY F hn hw;rw[q1]at hw;injection hw with hw;subst hw;refine⟨k1.1,k2,τ,q3,?_⟩;rw[←hT,hc,q2]
theorem cA{s:Spc}(hv:SpcV s){F:Bool}{σ0:Lk}{w:Wk}(hps:w.ps=[])(h:NX s F σ0 w):∃σ,DM s F σ0=(0,σ)∧σ.ex= !w.missing∧(w.missing=false→σ.file=w.at_)∧∀sl,FE s sl w=FC s sl σ:=by
 obtain⟨h8,hn,σ,hS,hT⟩:=h;exact⟨σ,by rw[←hT];exact Py (hS.ps.symm.trans hps),hS.ex,fun hm=>(hS.here hm).symm,fun sl=>aL hv hS hps⟩
section
theorem cB(s:Spc)(start:AB)(p:AJ)(fl:Bool)(hs:SpcN s)(hv:SpcV s)(hp:p.size≤1000000):AFn prog 184 [.agg (Ag s), .agg (AF start), .v (.string p), .v (.bool fl)] (fun r=>r= .tup [.agg (DZ (By s start p fl).1), .v (.int .i64 (By s start p fl).2)]):=by
 have hw:=Po hv;have hri:=bW hv;refine enter Tryz.func184 rfl rfl rfl rfl rfl 0 rfl ?_;refine w_ (b_ (h:=b_ (h:=Aa (h:=a_ (h:=e_ (q_ (Af (w_ (m_ (h:=AN (h:=a_ (h:=e_ (?_)))))))))))));refine A9 rfl (fun hb1=>?_) (fun hb1=>?_)
 ·have hc1:=bp hb1;refine w_ (Ab (h:=s_ (h:=a_ (h:=e_ (A4 (AR (A7 (?_))))))));refine A8 ?_;rw[show By s start p fl=(DL,2) from if_pos hc1];rfl
 have hc1:=bp hb1;refine w_ (m_ (h:=n_ (h:=Bf (h:=a_ (h:=e_ (?_))))));refine A9 rfl (fun hb2=>?_) (fun hb2=>?_)
 ·have hc2:=bp hb2;refine w_ (Ab (h:=s_ (h:=a_ (h:=e_ (A4 (AR (A7 (?_))))))));refine A8 ?_;rw[U8 hc1 (by omega)];rfl
 have hc2:=bp hb2;refine Av (Ai (t_ (w_ (m_ (h:=?_)))));refine A6 rfl (AE (U5 p (by omega)) ?_);rintro r rfl;refine m_ (h:=x_ (h:=x_ (h:=x_ (h:=a_ (h:=a_ (h:=a_ (h:=e_ (?_))))))));refine CH (fun t=>t=⟨look [(2, .v (.string p)),(4, .bp 0 0),(5, .bp 1 0),(8, .bp 2 0),(11, .v (.bool (Ce p))),(12, .v (.bool (BB p))),(13, .bp 3 0)],⟨[Ag s,AF start,DZ DL,Di s (fl||BB p) ⟨CT p,start,(0,0),⟨#[]⟩,false,0⟩],[]⟩⟩) ?_ ?_
 ·skip
  refine AT (l_ (h:=m_ (h:=l_ (h:=m_ (h:=m_ (h:=?_))))));refine AU false rfl rfl (fun hb3=>?_) (fun hb3=>?_)
  ·have hc3:=bp hb3;refine A3 (h:=AD (h:=Ab (h:=Aa (h:=s_ (h:=AP (?_))))));refine AK ?_
   first|(rw[hb3];exact⟨_,rfl,(wk 4 0)⟩)|exact⟨_,rfl,(wk 4 0)⟩
  have hc3:=bp hb3;refine m_ (h:=AG (h:=Ab (h:=Aa (h:=s_ (h:=AP (?_))))));refine AK ?_
  first|(rw[hb3];exact⟨_,rfl,(wk 4 0)⟩)|exact⟨_,rfl,(wk 4 0)⟩
 rintro t rfl;refine CH (fun t=>∃a,(if Ce p=true then Cs s else start)=a∧Aq s.files a=true∧t=⟨look [(4, .bp 0 0),(8, .bp 2 0),(12, .v (.bool (BB p))),(13, .bp 3 0)],⟨[Ag s,AF start,DZ DL,Di s (fl||BB p) ⟨CT p,a,(0,0),⟨#[]⟩,false,0⟩],[]⟩⟩) ?_ ?_
 ·skip
  refine w_ (m_ (h:=e_ (?_)));refine A9 rfl (fun hb4=>?_) (fun hb4=>?_)
  ·have hc4:=bp hb4;refine AT (l_ (h:=?_));refine A6 rfl (AE (U7 s hs.b) ?_);rintro r rfl;refine f_ (h:=s_ (h:=AP (?_)));refine AK ?_
   first|exact⟨_,⟨Cs s,if_pos hc4,hri,rfl⟩,(wk 4 0)⟩|exact⟨_,⟨start,if_neg (by simp[hc4]),by simpa using hc5,rfl⟩,(wk 4 0)⟩
  have hc4:=bp hb4;refine w_ (?_);refine A6 rfl (Fg 1 rfl (.cons _ _ _ _ _ rfl (AZ _) .nil) (QA s (fl||BB p) ⟨CT p,start,(0,0),⟨#[]⟩,false,0⟩ hs.b) ?_);rintro r rfl;refine⟨rfl,?_⟩;refine B7 (h:=e_ (?_));refine A9 rfl (fun hb5=>?_) (fun hb5=>?_)
  ·have hc5:=bp hb5;refine w_ (Ab (h:=s_ (h:=a_ (h:=e_ (A4 (A7 (?_)))))));refine A8 ?_;rw[U9 hc1 (by omega) (if_neg (by simp[hc4])) (by simpa using hc5)];rfl
  have hc5:=bp hb5;refine Av (?_);refine AK ?_
  first|exact⟨_,⟨Cs s,if_pos hc4,hri,rfl⟩,(wk 4 0)⟩|exact⟨_,⟨start,if_neg (by simp[hc4]),by simpa using hc5,rfl⟩,(wk 4 0)⟩
 rintro t ⟨a,ha,had,rfl⟩;refine q_ (Af (?_));refine BW (fun m t=>∃w,NX s (fl||BB p) (Em (CT p) a) w∧m=(8 - w.links) * 200+w.ps.length∧m≤1600+(p.size+1)∧t=⟨look [(4, .bp 0 0),(8, .bp 2 0),(12, .v (.bool (BB p))),(13, .bp 3 0)],⟨[Ag s,AF start,DZ DL,Di s (fl||BB p) w],[]⟩⟩) ((8 - 0) * 200+(CT p).length) ((wk 4 0)) (⟨_,⟨BO _,BO _,_,bZ (CT p) a (0,0) (fun _=>trivial),rfl⟩,rfl,by have:=K8 p;omega,rfl⟩) ?_;rintro m t ⟨w,hR,rfl,hm,rfl⟩;have hml:(w.ps.map Ci).length=w.ps.length:=by simp
 refine q_ (w_ (f_ (h:=l_ (h:=n_ (h:=Bf (h:=e_ (?_)))))));refine A9 rfl (fun hb6=>?_) (fun hb6=>?_)
 ·have hc6:=bp hb6
  obtain⟨q,qs,hqs⟩:∃q qs,w.ps=q::qs:=by
   cases hq:w.ps with
   |nil=>rw[hq]at hml hc6;simp at hc6
   |cons q qs=>exact⟨q,qs,rfl⟩
  have hql:w.ps.length=qs.length+1:=by rw[hqs];rfl
  refine AA (Af (w_ (?_)));refine A6 rfl (OD 3 rfl (by repeat (first|exact ArgsB.nil|refine ArgsB.cons _ _ _ _ _ rfl rfl ?_)) rfl rfl (bV s (fl||BB p) w q qs hqs hs.b hv hR.1 (by omega)) ?_);rintro r row2 (⟨e,he,he0,rfl,rfl⟩|⟨w2,hw2,rfl,rfl⟩)
  ·refine⟨NV _ _ _,rfl,_,(by repeat constructor),?_⟩;refine a_ (h:=e_ (w_ (m_ (h:=Aj (h:=e_ (?_))))));refine A9 rfl (fun hb7=>?_) (fun hb7=>?_)
   ·have hc7:=bp hb7;refine w_ (Ab (h:=m_ (h:=s_ (h:=a_ (h:=e_ (A4 (AR (A7 (AR (A7 (?_)))))))))));refine A8 ?_;rw[KA hc1 (by omega) ha had ((UB hv hqs hR).1 e he) he0];rfl
   have hc7:=bp hb7;exact absurd hc7 he0
  refine⟨NV _ _ _,rfl,_,(by repeat constructor),?_⟩;refine a_ (h:=e_ (w_ (m_ (h:=Aj (h:=e_ (?_))))));refine A9 rfl (fun hb8=>?_) (fun hb8=>?_)
  ·have hc8:=bp hb8;exact absurd rfl hc8
  have hc8:=bp hb8;refine Av (Ai (?_));refine AK ?_;exact⟨(8 - w2.links) * 200+w2.ps.length,_,(by have:=(QB hv.files _ hR.1 hw2).2;omega),⟨w2,(UB hv hqs hR).2 w2 hw2,rfl,by have:=(QB hv.files _ hR.1 hw2).2;omega,rfl⟩,(wk 4 0)⟩
 have hc6:=bp hb6;have hps:w.ps=[]:=Cp (by omega);obtain⟨σ,hT,hσx,hσf,hσe⟩:=cA hv hps hR;refine BH (Ah (Ah (BJ (t_ (q_ (?_))))));refine EU (⟨look [(8, .bp 2 0),(12, .v (.bool (BB p))),(13, .bp 3 0),(63, .v (.bool (BB p&&(!w.missing&& !Aq s.files w.at_))))],⟨[Ag s,AF start,DZ DL,Di s (fl||BB p) w],[]⟩⟩) ?_ ?_
 ·skip
  refine AT (m_ (h:=m_ (h:=?_)));refine AU true rfl rfl (fun hb9=>?_) (fun hb9=>?_)
  ·have hc9:=bp hb9;refine f_ (h:=l_ (h:=B7 (h:=AD (h:=m_ (h:=?_)))));refine AU true rfl rfl (fun hb10=>?_) (fun hb10=>?_)
   ·have hc10:=bp hb10;refine Ax (Fg 1 rfl (.cons _ _ _ _ _ rfl (AZ _) .nil) (QA s (fl||BB p) w hs.b) ?_);rintro r rfl;refine⟨rfl,?_⟩;refine B7 (h:=AD (h:=AP (?_)));refine AK ?_
    first|(exfalso;first|contradiction|omega)|exact Ay 4 0 rfl rfl rfl rfl (by repeat (first|exact Sub.nil|refine B0 rfl rfl ?_|refine B2 ?_|refine B3 rfl ?_|refine B4 rfl ?_|(apply Sub.of;(focus exact rfl);(focus exact LeA.of_eq (vb (by first|(rw[hb9];rfl)|(rw[hb9,hb10];rfl))));(focus exact rfl))))
   have hc10:=bp hb10;refine A3 (h:=A3 (h:=AG (h:=AP (?_))));refine AK ?_
   first|(exfalso;first|contradiction|omega)|exact Ay 4 0 rfl rfl rfl rfl (by repeat (first|exact Sub.nil|refine B0 rfl rfl ?_|refine B2 ?_|refine B3 rfl ?_|refine B4 rfl ?_|(apply Sub.of;(focus exact rfl);(focus exact LeA.of_eq (vb (by first|(rw[hb9];rfl)|(rw[hb9,hb10];rfl))));(focus exact rfl))))
  have hc9:=bp hb9;refine A3 (h:=A3 (h:=A3 (h:=AG (h:=m_ (h:=A3 (h:=A3 (h:=AG (h:=AP (?_)))))))));refine AK ?_
  first|(exfalso;first|contradiction|omega)|exact Ay 4 0 rfl rfl rfl rfl (by repeat (first|exact Sub.nil|refine B0 rfl rfl ?_|refine B2 ?_|refine B3 rfl ?_|refine B4 rfl ?_|(apply Sub.of;(focus exact rfl);(focus exact LeA.of_eq (vb (by first|(rw[hb9];rfl)|(rw[hb9,hb10];rfl))));(focus exact rfl))))
 skip
 refine A9 rfl (fun hb11=>?_) (fun hb11=>?_)
 ·have hc11:=bp hb11;refine w_ (Ab (h:=s_ (h:=a_ (h:=e_ (A4 (A7 (?_)))))));refine A8 ?_;rw[UA hc1 (by omega) ha had hT (by simp only[Bool.and_eq_true,Bool.not_eq_true']at hc11;exact⟨hc11.1,by rw[hσx,hc11.2.1];rfl,by rw[hσf hc11.2.1];exact hc11.2.2⟩)];rfl
 have hc11:=bp hb11;refine AA (w_ (m_ (h:=?_)));refine A6 rfl (Fg 1 rfl (.cons _ _ _ _ _ rfl (AZ _) (.cons _ _ _ _ _ rfl (AZ _) .nil)) (bT s (fl||BB p) (BB p) w hs hw (by have:=hR.2.1;omega)) ?_);rintro r rfl;refine⟨rfl,?_⟩;refine s_ (h:=a_ (h:=e_ (A4 (?_))));refine A8 ?_
 rw[NW hc1 (by omega) ha had hT (fun h=>by
  obtain⟨h1,h2,h3⟩:=h;rw[hσx]at h2;have hm2:w.missing=false:=by simpa using h2
  rw[hσf hm2]at h3;rw[h1,h2,h3]at hc11
  cases hc11),←hσe]
 rfl
end
section
theorem QC{s:Spc}(hs:SpcB s)(hv:SpcV s)(a:AB):AFn prog 193 [.agg (Ag s), .agg (AF a)] (fun r=>r= .agg (AF (CZ s s.mounts.length a))):=
 (Wc s a hs).mono fun r hr=>by rw[hr,ZA hv]
end
def La(σ:Lk):List AV:=DZ ⟨σ.dir,σ.name,σ.file,σ.ex,false,⟨#[]⟩⟩
theorem Fs{s:Spc}(hv:FlsV s.files){F:Bool}{q:AJ}{qs:List AJ}{da:AB}{na:AJ}{a:AB}{ea:Bool}{lk:Nat}(h8:lk≤8):(∀e,Bu s F q qs a lk= .inl e→DM s F ⟨q::qs,da,na,a,ea,lk⟩=(e,LV))∧∀τ,Bu s F q qs a lk= .inr τ→τ.links≤8∧DM s F ⟨q::qs,da,na,a,ea,lk⟩=DM s F τ∧Dp τ<(8 - lk) * 200+(qs.length+1):=by
 have hc:=Tj hv (fl:=F) (σ:=⟨q::qs,da,na,a,ea,lk⟩) (p:=q) (ps:=qs) h8 rfl;refine⟨fun e he=>?_,fun τ hτ=>?_⟩
 ·rw[hc];simp only[he]
 obtain⟨h1,h2⟩:=Px hv h8 hτ;refine⟨h1,?_,h2⟩;rw[hc];simp only[hτ]
section
theorem UC(s:Spc)(hs:SpcB s)(hv:SpcV s):AFn prog 192 [.agg (Ag s)] (fun r=>r= .agg (AF (Cs s))):=by
 refine enter Tryz.func192 rfl rfl rfl rfl rfl 0 rfl ?_;refine w_ (b_ (h:=Aa (h:=e_ (w_ (l_ (h:=Ab (h:=?_)))))));refine A6 rfl (AE (QC hs hv (0,1)) ?_);rintro r rfl;refine s_ (h:=e_ (A4 (?_)));refine A8 ?_;rfl
theorem cC(s:Spc)(start:AB)(p:AJ)(fl:Bool)(hs:SpcN s)(hv:SpcV s)(hp:p.size≤100000):AFn prog 141 [.agg (Ag s), .agg (AF start), .v (.string p), .v (.bool fl)] (fun r=>r= .tup [.agg (DZ (By s start p fl).1), .v (.int .i64 (By s start p fl).2)]):=by
 have hw:=Po hv;have hsp:=K8 p;refine enter Tryz.func141 rfl rfl rfl rfl rfl 0 rfl ?_;refine w_ (b_ (h:=b_ (h:=Aa (h:=a_ (h:=e_ (w_ (m_ (h:=?_))))))));refine A6 rfl (AE (Pq p hp) ?_);rintro r ⟨ps,hps,rfl⟩;obtain rfl:=Pw hps;clear hps;refine m_ (h:=x_ (h:=x_ (h:=x_ (h:=a_ (h:=a_ (h:=a_ (h:=e_ (q_ (w_ (m_ (h:=AN (h:=e_ (?_)))))))))))));refine A9 rfl (fun hb1=>?_) (fun hb1=>?_)
 ·have hc1:=bp hb1;refine w_ (Ab (h:=s_ (h:=a_ (h:=e_ (A4 (A7 (?_)))))));refine A8 ?_;rw[show By s start p fl=(DL,2) from if_pos hc1];rfl
 have hc1:=bp hb1;refine AA (q_ (w_ (m_ (h:=n_ (h:=Bf (h:=e_ (?_)))))));refine A9 rfl (fun hb2=>?_) (fun hb2=>?_)
 ·have hc2:=bp hb2;refine w_ (Ab (h:=s_ (h:=a_ (h:=e_ (A4 (A7 (?_)))))));refine A8 ?_;rw[U8 hc1 (by omega)];rfl
 have hc2:=bp hb2;refine AA (w_ (l_ (h:=Aa (h:=s_ (h:=e_ (?_))))));refine CH (fun t=>∃a,(if Ce p=true then Cs s else start)=a∧t=⟨look [(3, .v (.bool fl)),(4, .bp 0 0),(8, .bp 2 0),(10, .sl 1 ((CT p).map Ci) none),(12, .v (.bool (BB p))),(13, .bp 3 0)],⟨[Ag s,AF start,DZ DL,AF a],[]⟩⟩) ?_ ?_
 ·skip
  refine w_ (m_ (h:=e_ (?_)));refine A9 rfl (fun hb3=>?_) (fun hb3=>?_)
  ·have hc3:=bp hb3;refine AT (l_ (h:=?_));refine A6 rfl (AE (UC s hs.b hv) ?_);rintro r rfl;refine s_ (h:=AP (?_));refine AK ?_
   first|exact⟨_,⟨Cs s,if_pos hc3,rfl⟩,(wk 4 0)⟩|exact⟨_,⟨start,if_neg (by simp[hc3]),rfl⟩,(wk 4 0)⟩
  have hc3:=bp hb3;refine Av (?_);refine AK ?_
  first|exact⟨_,⟨Cs s,if_pos hc3,rfl⟩,(wk 4 0)⟩|exact⟨_,⟨start,if_neg (by simp[hc3]),rfl⟩,(wk 4 0)⟩
 rintro t ⟨a0,ha,rfl⟩;refine q_ (w_ (f_ (h:=l_ (h:=l_ (h:=?_)))));refine A6 rfl (AE (GW s.files a0 hs.b.files) ?_);rintro r rfl;refine B7 (h:=e_ (?_));refine A9 rfl (fun hb4=>?_) (fun hb4=>?_)
 ·have hc4:=bp hb4;refine w_ (Ab (h:=s_ (h:=a_ (h:=e_ (A4 (A7 (?_)))))));refine A8 ?_;rw[U9 hc1 (by omega) ha (by simpa using hc4)];rfl
 have hc4:=bp hb4;have had:Aq s.files a0=true:=by simpa using hc4
 refine AA (w_ (l_ (h:=l_ (h:=Ab (h:=Aa (h:=s_ (h:=e_ (w_ (a_ (h:=e_ (?_)))))))))));refine CH (fun t=>∃(τ:Lk) (d:AB),DM s (fl||BB p) (Em (CT p) a0)=(0,τ)∧τ.name.size≤1000∧t=⟨look [(4, .bp 0 0),(8, .bp 2 0),(12, .v (.bool (BB p))),(14, .bp 4 0)],⟨[Ag s,AF start,DZ DL,AF d,La τ],[]⟩⟩) ?_ ?_
 ·skip
  refine Af (?_);refine BW (fun m t=>∃(σ:Lk) (d:AB),σ.links≤8∧σ.name.size≤12∧DM s (fl||BB p) σ=DM s (fl||BB p) (Em (CT p) a0)∧m=Dp σ∧m≤1729∧t=⟨look [(3, .v (.bool fl)),(4, .bp 0 0),(8, .bp 2 0),(10, .sl 1 (σ.ps.map Ci) none),(12, .v (.bool (BB p))),(13, .bp 3 0),(14, .bp 4 0),(15, .v (.int .i64 (σ.links:Int)))],⟨[Ag s,AF start,DZ DL,AF d,La σ],[]⟩⟩) (Dp (Em (CT p) a0)) ((wk 5 0)) (⟨_,a0,BO _,BO _,rfl,rfl,by show(8 - 0) * 200+(CT p).length≤1729;omega,rfl⟩) ?_;rintro m t ⟨⟨ps0,da,na,a,ea,lk⟩,d,h8,hna,hT,rfl,hm,rfl⟩;have hm:(8 - lk) * 200+ps0.length≤1729:=hm;have h8:lk≤8:=h8;have hml:(ps0.map Ci).length=ps0.length:=by simp
  refine q_ (w_ (m_ (h:=n_ (h:=Bf (h:=e_ (?_))))));refine A9 rfl (fun hb5=>?_) (fun hb5=>?_)
  ·have hc5:=bp hb5
   obtain⟨q,qs,hps⟩:∃q qs,ps0=q::qs:=by
    cases ps0 with
    |nil=>simp at hc5
    |cons q qs=>exact⟨q,qs,rfl⟩
   subst hps;have hml:(qs.map Ci).length=qs.length:=by simp
   have hmq:(8 - lk) * 200+(qs.length+1)≤1729:=hm;have htg:=LM hv.files (AQ s.files a q).1;have htp:=K8 (At s.files (AQ s.files a q).1).target;refine AA (Af (w_ (m_ (h:=?_))));refine A6 rfl (Dc (n:=0) rfl rfl rfl rfl ?_);refine l_ (h:=a_ (h:=e_ (?_)));refine EU (⟨look [(3, .v (.bool fl)),(4, .bp 0 0),(8, .bp 2 0),(10, .sl 1 (qs.map Ci) none),(12, .v (.bool (BB p))),(13, .bp 3 0),(14, .bp 4 0),(15, .v (.int .i64 (lk:Int))),(16, .v (.string q))],⟨[Ag s,AF start,DZ DL,AF d,La ⟨q::qs,da,na,a,ea,lk⟩],[]⟩⟩) ?_ ?_
   ·skip
    refine AT (m_ (h:=?_));refine A6 rfl (MD (l:=1) rfl rfl rfl (by simp) ?_);refine a_ (h:=AP (?_));refine AK ?_
    first|(exfalso;first|contradiction|omega)|exact Ay 5 0 rfl rfl rfl rfl (by repeat (first|exact Sub.nil|refine B0 rfl rfl ?_|refine B2 ?_|refine B3 rfl ?_|refine B4 rfl ?_|(apply Sub.of;(focus exact rfl);(focus exact LeA.of_eq (vb (by rfl)));(focus exact rfl))))
   skip
   refine w_ (f_ (h:=l_ (h:=s_ (h:=e_ (q_ (w_ (f_ (h:=l_ (h:=l_ (h:=?_))))))))));refine A6 rfl (AE (GW s.files a hs.b.files) ?_);rintro r rfl;refine B7 (h:=e_ (?_));refine A9 rfl (fun hb6=>?_) (fun hb6=>?_)
   ·have hc6:=bp hb6;have hst:Bu s (fl||BB p) q qs a lk= .inl 20:=by unfold Bu;rw[if_pos hc6]
    refine w_ (Ab (h:=s_ (h:=a_ (h:=e_ (A4 (A7 (AR (A7 (AR (A7 (?_)))))))))));refine A8 ?_;rw[KA hc1 (by omega) ha had (hT.symm.trans ((Fs (F:=fl||BB p) (da:=da) (na:=na) (ea:=ea) hv.files h8).1 _ hst)) (by decide)];rfl
   have hc6:=bp hb6;refine AA (q_ (w_ (m_ (h:=n_ (h:=Bf (h:=e_ (?_)))))));refine A9 rfl (fun hb7=>?_) (fun hb7=>?_)
   ·have hc7:=bp hb7;have hst:Bu s (fl||BB p) q qs a lk= .inl 36:=by unfold Bu;rw[if_neg (by simp[hc6]),if_pos (by omega)]
    refine w_ (Ab (h:=s_ (h:=a_ (h:=e_ (A4 (A7 (AR (A7 (AR (A7 (?_)))))))))));refine A8 ?_;rw[KA hc1 (by omega) ha had (hT.symm.trans ((Fs (F:=fl||BB p) (da:=da) (na:=na) (ea:=ea) hv.files h8).1 _ hst)) (by decide)];rfl
   have hc7:=bp hb7;have hq12:q.size≤12:=by omega
   refine AA (q_ (w_ (m_ (h:=AN (h:=m_ (h:=?_))))));refine AU false rfl rfl (fun hb8=>?_) (fun hb8=>?_)
   ·have hc8:=bp hb8;refine A3 (h:=A3 (h:=AD (h:=e_ (B6 (h:=q_ (w_ (m_ (h:=AN (h:=e_ (?_))))))))));refine A9 rfl (fun hb9=>?_) (fun hb9=>?_)
    ·have hc9:=bp hb9;rw[hc8]at hc9;exact absurd hc9 (by decide)
    have hc9:=bp hb9;have hst:Bu s (fl||BB p) q qs a lk= .inr ⟨qs,a,⟨#[]⟩,a,true,lk⟩:=by unfold Bu;rw[if_neg (by simp[hc6]),if_neg (by omega),if_pos hc8]
    refine AA (w_ (l_ (h:=l_ (h:=Ab (h:=s_ (h:=e_ (BH (Ah (BJ (?_))))))))));refine AK ?_;obtain⟨g1,g2,g3⟩:=(Fs (F:=fl||BB p) (da:=da) (na:=na) (ea:=ea) hv.files h8).2 _ hst;exact⟨_,_,g3,⟨_,_,g1,(by first|exact BO _|exact hq12),g2.symm.trans hT,rfl,Nat.le_trans (Nat.le_of_lt g3) hmq,rfl⟩,(by(try simp only[List.map_append]);exact Ay 5 0 rfl rfl rfl rfl ((by repeat (first|exact Sub.nil|refine B0 rfl rfl ?_|refine B2 ?_|refine B3 rfl ?_|refine B4 rfl ?_))))⟩
   have hc8:=bp hb8;refine m_ (h:=AN (h:=AG (h:=e_ (?_))));refine A9 rfl (fun hb10=>?_) (fun hb10=>?_)
   ·have hc10:=bp hb10;refine q_ (w_ (m_ (h:=AN (h:=e_ (?_)))));refine A9 rfl (fun hb11=>?_) (fun hb11=>?_)
    ·have hc11:=bp hb11;have hst:Bu s (fl||BB p) q qs a lk= .inr ⟨qs,CZ s s.mounts.length (D8 s (s.mounts.length+1) a),⟨#[]⟩,CZ s s.mounts.length (D8 s (s.mounts.length+1) a),true,lk⟩:=by unfold Bu;rw[if_neg (by simp[hc6]),if_neg (by omega),if_neg hc8,if_pos hc11]
     refine CB ([(0,Ag s),(3,AF a)]) 5 (h:=AY 0 (h:=AY 1 (h:=AY 2 (h:=?_))));refine c_ 3 rfl (AE (ZQ hs.b hv (s.mounts.length+1) a (by have:=Z8 (s:=s) a.1;omega)) ?_);rintro r rfl;refine o_ (h:=?_);refine c_ 4 rfl (AE (QC hs.b hv (D8 s (s.mounts.length+1) a)) ?_);rintro r rfl;refine o_ (h:=?_);refine Bi 5 rfl (Ba rfl rfl rfl rfl rfl rfl (by repeat constructor) (by repeat constructor) ?_);refine o_ (h:=z_ (h:=t_ (w_ (l_ (h:=l_ (h:=Ab (h:=s_ (h:=e_ (BH (Ah (BJ (?_))))))))))));refine AK ?_;obtain⟨g1,g2,g3⟩:=(Fs (F:=fl||BB p) (da:=da) (na:=na) (ea:=ea) hv.files h8).2 _ hst;exact⟨_,_,g3,⟨_,_,g1,(by first|exact BO _|exact hq12),g2.symm.trans hT,rfl,Nat.le_trans (Nat.le_of_lt g3) hmq,rfl⟩,(by(try simp only[List.map_append]);exact Ay 5 0 rfl rfl rfl rfl ((by repeat (first|exact Sub.nil|refine B0 rfl rfl ?_|refine B2 ?_|refine B3 rfl ?_|refine B4 rfl ?_))))⟩
    have hc11:=bp hb11;exact absurd hc10 hc11
   have hc10:=bp hb10;refine AA (w_ (f_ (h:=l_ (h:=l_ (h:=m_ (h:=?_))))));refine A6 rfl (AE (HU s.files a q hs.b.files) ?_);rintro r rfl;refine m_ (h:=x_ (h:=x_ (h:=Aa (h:=s_ (h:=a_ (h:=e_ (q_ (w_ (m_ (h:=Aj (h:=e_ (?_))))))))))));refine A9 rfl (fun hb12=>?_) (fun hb12=>?_)
   ·have hc12:=bp hb12;refine q_ (w_ (m_ (h:=n_ (h:=Bf (h:=m_ (h:=?_))))));refine AU false rfl rfl (fun hb13=>?_) (fun hb13=>?_)
    ·have hc13:=bp hb13;have hne:qs≠[]:=fun e=>by rw[e]at hc13;simp at hc13
     have hst:Bu s (fl||BB p) q qs a lk= .inl 2:=by unfold Bu;rw[if_neg (by simp[hc6]),if_neg (by omega),if_neg hc8,if_neg hc10,if_pos hc12,if_pos (.inl hne)]
     refine A3 (h:=A3 (h:=A3 (h:=AD (h:=e_ (B6 (h:=w_ (Ab (h:=s_ (h:=a_ (h:=e_ (A4 (A7 (A7 (AR (A7 (AR (A7 (?_))))))))))))))))));refine A8 ?_;rw[KA hc1 (by omega) ha had (hT.symm.trans ((Fs (F:=fl||BB p) (da:=da) (na:=na) (ea:=ea) hv.files h8).1 _ hst)) (by decide)];rfl
    have hc13:=bp hb13;have hne:¬qs≠[]:=fun e=>e (Cp (by omega));refine m_ (h:=?_);refine Ax (AE (OZ q (by omega)) ?_);rintro r rfl;refine B7 (h:=AG (h:=e_ (?_)));refine A9 rfl (fun hb14=>?_) (fun hb14=>?_)
    ·have hc14:=bp hb14;have hst:Bu s (fl||BB p) q qs a lk= .inl 2:=by unfold Bu;rw[if_neg (by simp[hc6]),if_neg (by omega),if_neg hc8,if_neg hc10,if_pos hc12,if_pos (.inr hc14)]
     refine w_ (Ab (h:=s_ (h:=a_ (h:=e_ (A4 (A7 (A7 (AR (A7 (AR (A7 (?_))))))))))));refine A8 ?_;rw[KA hc1 (by omega) ha had (hT.symm.trans ((Fs (F:=fl||BB p) (da:=da) (na:=na) (ea:=ea) hv.files h8).1 _ hst)) (by decide)];rfl
    have hc14:=bp hb14;have hst:Bu s (fl||BB p) q qs a lk= .inr ⟨[],a,q,(0,0),false,lk⟩:=by unfold Bu;rw[if_neg (by simp[hc6]),if_neg (by omega),if_neg hc8,if_neg hc10,if_pos hc12,if_neg (fun e=>e.elim hne (by simp[hc14]))]
    have hfin:=hT.symm.trans (((Fs (F:=fl||BB p) (da:=da) (na:=na) (ea:=ea) hv.files h8).2 _ hst).2.1.trans (Py rfl));refine AA (w_ (l_ (h:=m_ (h:=Ab (h:=s_ (h:=e_ (BH (Ah (KM rfl (Ah (BJ (?_))))))))))));refine AK ?_;exact⟨_,⟨_,_,hfin,(by first|exact Nat.le_trans hna (by decide)|exact Nat.le_trans hq12 (by decide)),rfl⟩,(wk 5 0)⟩
   have hc12:=bp hb12;refine AA (w_ (f_ (h:=l_ (h:=l_ (h:=?_)))));refine A6 rfl (AE (Eg s.files (AQ s.files a q).1 hs.b.files) ?_);rintro r rfl;refine m_ (h:=x_ (h:=x_ (h:=Aa (h:=s_ (h:=a_ (h:=e_ (q_ (?_))))))));refine EU (⟨look [(3, .v (.bool fl)),(4, .bp 0 0),(8, .bp 2 0),(10, .sl 1 (qs.map Ci) none),(12, .v (.bool (BB p))),(13, .bp 3 0),(14, .bp 4 0),(15, .v (.int .i64 (lk:Int))),(16, .v (.string q)),(17, .bp 5 0),(19, .bp 6 0),(130, .v (.bool (decide ((At s.files (AQ s.files a q).1).kind=3)&&(decide (0<((qs.map Ci).length:Int))||(fl||BB p)))))],⟨[Ag s,AF start,DZ DL,AF a,La ⟨q::qs,da,na,a,ea,lk⟩,AF (AQ s.files a q).1,Ao (At s.files (AQ s.files a q).1)],[]⟩⟩) ?_ ?_
   ·skip
    refine AT (f_ (h:=l_ (h:=AN (h:=m_ (h:=?_)))));refine AU true rfl rfl (fun hb15=>?_) (fun hb15=>?_)
    ·have hc15:=bp hb15;refine m_ (h:=n_ (h:=Bf (h:=m_ (h:=?_))));refine AU false rfl rfl (fun hb16=>?_) (fun hb16=>?_)
     ·have hc16:=bp hb16;refine A3 (h:=AD (h:=m_ (h:=A3 (h:=AD (h:=AD (h:=AP (?_)))))));refine AK ?_
      first|(exfalso;first|contradiction|omega)|exact Ay 7 0 rfl rfl rfl rfl (by repeat (first|exact Sub.nil|refine B0 rfl rfl ?_|refine B2 ?_|refine B3 rfl ?_|refine B4 rfl ?_|(apply Sub.of;(focus exact rfl);(focus exact LeA.of_eq (vb (by first|(rw[hb15];rfl)|(rw[hb15,hb16];rfl)|(rw[hb15,hb16,hb17];rfl))));(focus exact rfl))))
     have hc16:=bp hb16;refine m_ (h:=AG (h:=m_ (h:=?_)));refine AU false rfl rfl (fun hb17=>?_) (fun hb17=>?_)
     ·have hc17:=bp hb17;refine A3 (h:=AD (h:=AD (h:=AP (?_))));refine AK ?_
      first|(exfalso;first|contradiction|omega)|exact Ay 7 0 rfl rfl rfl rfl (by repeat (first|exact Sub.nil|refine B0 rfl rfl ?_|refine B2 ?_|refine B3 rfl ?_|refine B4 rfl ?_|(apply Sub.of;(focus exact rfl);(focus exact LeA.of_eq (vb (by first|(rw[hb15];rfl)|(rw[hb15,hb16];rfl)|(rw[hb15,hb16,hb17];rfl))));(focus exact rfl))))
     have hc17:=bp hb17;refine m_ (h:=AG (h:=AD (h:=AP (?_))));refine AK ?_
     first|(exfalso;first|contradiction|omega)|exact Ay 7 0 rfl rfl rfl rfl (by repeat (first|exact Sub.nil|refine B0 rfl rfl ?_|refine B2 ?_|refine B3 rfl ?_|refine B4 rfl ?_|(apply Sub.of;(focus exact rfl);(focus exact LeA.of_eq (vb (by first|(rw[hb15];rfl)|(rw[hb15,hb16];rfl)|(rw[hb15,hb16,hb17];rfl))));(focus exact rfl))))
    have hc15:=bp hb15;refine A3 (h:=A3 (h:=A3 (h:=A3 (h:=AX (h:=A3 (h:=A3 (h:=AX (h:=A3 (h:=AG (h:=AP (?_)))))))))));refine AK ?_
    first|(exfalso;first|contradiction|omega)|exact Ay 7 0 rfl rfl rfl rfl (by repeat (first|exact Sub.nil|refine B0 rfl rfl ?_|refine B2 ?_|refine B3 rfl ?_|refine B4 rfl ?_|(apply Sub.of;(focus exact rfl);(focus exact LeA.of_eq (vb (by first|(rw[hb15];rfl)|(rw[hb15,hb16];rfl)|(rw[hb15,hb16,hb17];rfl))));(focus exact rfl))))
   skip
   refine A9 rfl (fun hb18=>?_) (fun hb18=>?_)
   ·have hc18:=bp hb18
    have hlk:(At s.files (AQ s.files a q).1).kind=3∧(qs≠[]∨(fl||BB p)=true):=by
     rw[Bool.and_eq_true,decide_eq_true_eq,Bool.or_eq_true,decide_eq_true_eq]at hc18;exact⟨hc18.1,hc18.2.imp (fun h e=>by rw[e]at h;simp at h) id⟩
    refine q_ (w_ (m_ (h:=AN (h:=e_ (?_)))));refine A9 rfl (fun hb19=>?_) (fun hb19=>?_)
    ·have hc19:=bp hb19;have hst:Bu s (fl||BB p) q qs a lk= .inl 40:=by unfold Bu;rw[if_neg (by simp[hc6]),if_neg (by omega),if_neg hc8,if_neg hc10,if_neg (by simp[hc12]),if_pos hlk,if_pos (by omega)]
     refine w_ (Ab (h:=s_ (h:=a_ (h:=e_ (A4 (A7 (A7 (AR (A7 (AR (A7 (?_))))))))))));refine A8 ?_;rw[KA hc1 (by omega) ha had (hT.symm.trans ((Fs (F:=fl||BB p) (da:=da) (na:=na) (ea:=ea) hv.files h8).1 _ hst)) (by decide)];rfl
    have hc19:=bp hb19;refine AA (w_ (m_ (h:=?_)));refine A6 rfl (GP rfl rfl (by omega) ?_);refine a_ (h:=e_ (w_ (f_ (h:=l_ (h:=?_)))));refine A6 rfl (AE (Pq (At s.files (AQ s.files a q).1).target (by omega)) ?_);rintro r ⟨ps,hps,rfl⟩;obtain rfl:=Pw hps;clear hps;refine m_ (h:=x_ (h:=x_ (h:=x_ (h:=a_ (h:=a_ (h:=a_ (h:=e_ (q_ (w_ (m_ (h:=e_ (?_))))))))))));refine A9 rfl (fun hb20=>?_) (fun hb20=>?_)
    ·have hc20:=bp hb20;have hst:Bu s (fl||BB p) q qs a lk= .inr ⟨CT (At s.files (AQ s.files a q).1).target++qs,Cs s,⟨#[]⟩,Cs s,true,lk+1⟩:=by unfold Bu;rw[if_neg (by simp[hc6]),if_neg (by omega),if_neg hc8,if_neg hc10,if_neg (by simp[hc12]),if_pos hlk,if_neg (by omega),if_pos hc20]
     refine AT (l_ (h:=?_));refine A6 rfl (AE (UC s hs.b hv) ?_);rintro r rfl;refine s_ (h:=e_ (w_ (m_ (h:=D3 (h:=m_ (h:=D3 (h:=a_ (h:=e_ (w_ (l_ (h:=l_ (h:=Ab (h:=s_ (h:=e_ (BH (Ah (BJ (?_))))))))))))))))));refine AK ?_;obtain⟨g1,g2,g3⟩:=(Fs (F:=fl||BB p) (da:=da) (na:=na) (ea:=ea) hv.files h8).2 _ hst;exact⟨_,_,g3,⟨_,_,g1,(by first|exact BO _|exact hq12),g2.symm.trans hT,rfl,Nat.le_trans (Nat.le_of_lt g3) hmq,rfl⟩,(by(try simp only[List.map_append]);exact Ay 5 0 rfl rfl rfl rfl ((by repeat (first|exact Sub.nil|refine B0 rfl rfl ?_|refine B2 ?_|refine B3 rfl ?_|refine B4 rfl ?_))))⟩
    have hc20:=bp hb20;have hst:Bu s (fl||BB p) q qs a lk= .inr ⟨CT (At s.files (AQ s.files a q).1).target++qs,a,⟨#[]⟩,a,true,lk+1⟩:=by unfold Bu;rw[if_neg (by simp[hc6]),if_neg (by omega),if_neg hc8,if_neg hc10,if_neg (by simp[hc12]),if_pos hlk,if_neg (by omega),if_neg (by simp[hc20])]
    refine AA (w_ (m_ (h:=D3 (h:=m_ (h:=D3 (h:=a_ (h:=e_ (w_ (l_ (h:=l_ (h:=Ab (h:=s_ (h:=e_ (BH (Ah (BJ (?_)))))))))))))))));refine AK ?_;obtain⟨g1,g2,g3⟩:=(Fs (F:=fl||BB p) (da:=da) (na:=na) (ea:=ea) hv.files h8).2 _ hst;exact⟨_,_,g3,⟨_,_,g1,(by first|exact BO _|exact hq12),g2.symm.trans hT,rfl,Nat.le_trans (Nat.le_of_lt g3) hmq,rfl⟩,(by(try simp only[List.map_append]);exact Ay 5 0 rfl rfl rfl rfl ((by repeat (first|exact Sub.nil|refine B0 rfl rfl ?_|refine B2 ?_|refine B3 rfl ?_|refine B4 rfl ?_))))⟩
   have hc18:=bp hb18
   have hlk:¬((At s.files (AQ s.files a q).1).kind=3∧(qs≠[]∨(fl||BB p)=true)):=fun h=>by
    rw[decide_eq_true h.1,Bool.true_and,Bool.or_eq_false_iff]at hc18;rcases h.2 with e|e
    ·exact e (Cp (by have:=of_decide_eq_false hc18.1;omega))
    rw[hc18.2]at e;cases e
   have hst:Bu s (fl||BB p) q qs a lk= .inr ⟨qs,a,q,CZ s s.mounts.length (AQ s.files a q).1,true,lk⟩:=by unfold Bu;rw[if_neg (by simp[hc6]),if_neg (by omega),if_neg hc8,if_neg hc10,if_neg (by simp[hc12]),if_neg hlk]
   refine AA (CB ([(0,Ag s),(3,AF a),(5,AF (AQ s.files a q).1)]) 6 (h:=AY 0 (h:=Ap 1 (h:=AY 2 (h:=AY 3 (h:=?_))))));refine c_ 4 rfl (AE (QC hs.b hv (AQ s.files a q).1) ?_);rintro r rfl;refine o_ (h:=G7 5 (h:=?_));refine Bi 6 rfl (Ba rfl rfl rfl rfl rfl rfl (by repeat constructor) (by repeat constructor) ?_);refine o_ (h:=z_ (h:=Ai (?_)));refine AK ?_;obtain⟨g1,g2,g3⟩:=(Fs (F:=fl||BB p) (da:=da) (na:=na) (ea:=ea) hv.files h8).2 _ hst;exact⟨_,_,g3,⟨_,_,g1,(by first|exact BO _|exact hq12),g2.symm.trans hT,rfl,Nat.le_trans (Nat.le_of_lt g3) hmq,rfl⟩,(by(try simp only[List.map_append]);exact Ay 5 0 rfl rfl rfl rfl ((by repeat (first|exact Sub.nil|refine B0 rfl rfl ?_|refine B2 ?_|refine B3 rfl ?_|refine B4 rfl ?_))))⟩
  have hc5:=bp hb5;have hc5:¬(0:Int)<((ps0.map Ci).length:Int):=hc5;have e5:ps0=[]:=Cp (by omega);subst e5;have hfin:=hT.symm.trans (Py (s:=s) (fl:=fl||BB p) (σ:=⟨[],da,na,a,ea,lk⟩) rfl);refine BH (Ah (Ah (BJ (?_))));refine AK ?_;exact⟨_,⟨_,_,hfin,(by first|exact Nat.le_trans hna (by decide)|exact Nat.le_trans hq12 (by decide)),rfl⟩,(wk 5 0)⟩
 rintro t ⟨τ,d,hT,hnm,rfl⟩;refine q_ (?_);refine EU (⟨look [(4, .bp 0 0),(8, .bp 2 0),(12, .v (.bool (BB p))),(14, .bp 4 0),(171, .v (.bool (BB p&&(τ.ex&& !Aq s.files τ.file))))],⟨[Ag s,AF start,DZ DL,AF d,La τ],[]⟩⟩) ?_ ?_
 ·skip
  refine AT (m_ (h:=m_ (h:=?_)));refine AU true rfl rfl (fun hb21=>?_) (fun hb21=>?_)
  ·have hc21:=bp hb21;refine f_ (h:=l_ (h:=AD (h:=m_ (h:=?_))));refine AU true rfl rfl (fun hb22=>?_) (fun hb22=>?_)
   ·have hc22:=bp hb22;have hx:τ.ex=true:=hb22;refine f_ (h:=l_ (h:=f_ (h:=l_ (h:=?_))));refine Ax (AE (GW s.files τ.file hs.b.files) ?_);rintro r rfl;refine B7 (h:=AD (h:=AP (?_)));refine AK ?_
    first|(exfalso;first|contradiction|omega)|exact Ay 5 0 rfl rfl rfl rfl (by repeat (first|exact Sub.nil|refine B0 rfl rfl ?_|refine B2 ?_|refine B3 rfl ?_|refine B4 rfl ?_|(apply Sub.of;(focus exact rfl);(focus exact LeA.of_eq (vb (by first|(rw[hb21];rfl)|(rw[hb21,hx];rfl))));(focus exact rfl))))
   have hc22:=bp hb22;have hx:τ.ex=false:=hb22;refine A3 (h:=A3 (h:=A3 (h:=A3 (h:=A3 (h:=A3 (h:=AG (h:=AP (?_))))))));refine AK ?_
   first|(exfalso;first|contradiction|omega)|exact Ay 5 0 rfl rfl rfl rfl (by repeat (first|exact Sub.nil|refine B0 rfl rfl ?_|refine B2 ?_|refine B3 rfl ?_|refine B4 rfl ?_|(apply Sub.of;(focus exact rfl);(focus exact LeA.of_eq (vb (by first|(rw[hb21];rfl)|(rw[hb21,hx];rfl))));(focus exact rfl))))
  have hc21:=bp hb21;refine A3 (h:=A3 (h:=AG (h:=m_ (h:=A3 (h:=A3 (h:=A3 (h:=A3 (h:=A3 (h:=A3 (h:=AG (h:=AP (?_))))))))))));refine AK ?_
  first|(exfalso;first|contradiction|omega)|exact Ay 5 0 rfl rfl rfl rfl (by repeat (first|exact Sub.nil|refine B0 rfl rfl ?_|refine B2 ?_|refine B3 rfl ?_|refine B4 rfl ?_|(apply Sub.of;(focus exact rfl);(focus exact LeA.of_eq (vb (by first|(rw[hb21];rfl)|(rw[hb21,hx];rfl))));(focus exact rfl))))
 skip
 refine A9 rfl (fun hb23=>?_) (fun hb23=>?_)
 ·have hc23:=bp hb23;refine w_ (Ab (h:=s_ (h:=a_ (h:=e_ (A4 (A7 (?_)))))));refine A8 ?_;rw[UA hc1 (by omega) ha had hT (by simp only[Bool.and_eq_true,Bool.not_eq_true']at hc23;exact hc23)];rfl
 have hc23:=bp hb23;refine AA (w_ (m_ (h:=f_ (h:=s_ (h:=e_ (q_ (w_ (l_ (h:=f_ (h:=l_ (h:=?_)))))))))));refine A6 rfl (AE (ZO hs.b hv τ.dir) ?_);rintro r rfl;refine m_ (h:=x_ (h:=x_ (h:=a_ (h:=a_ (h:=e_ (w_ (m_ (h:=e_ (?_)))))))));refine A9 rfl (fun hb24=>?_) (fun hb24=>?_)
 ·have hc24:=bp hb24;refine w_ (m_ (h:=f_ (h:=s_ (h:=e_ (w_ (f_ (h:=l_ (h:=Aj (h:=e_ (?_))))))))));refine A9 rfl (fun hb25=>?_) (fun hb25=>?_)
  ·have hc25:=bp hb25;refine AT (m_ (h:=f_ (h:=l_ (h:=?_))));refine A6 rfl (AE (TX (Bd s τ.dir).1 τ.name (by have:=hw τ.dir;omega) (by omega)) ?_);rintro r rfl;refine f_ (h:=s_ (h:=e_ (w_ (l_ (h:=s_ (h:=a_ (h:=e_ (A4 (?_)))))))));refine A8 ?_;rw[NW hc1 (by omega) ha had hT (fun h=>by rw[h.1,h.2.1,h.2.2]at hc23;cases hc23),show FC s (BB p) τ=⟨τ.dir,τ.name,τ.file,τ.ex,BB p,Co (Bd s τ.dir).1 τ.name⟩ by unfold FC;rw[if_pos hc24,if_neg hc25]];rfl
  have hc25:=bp hb25;refine AA (w_ (l_ (h:=s_ (h:=a_ (h:=e_ (A4 (?_)))))));refine A8 ?_;rw[NW hc1 (by omega) ha had hT (fun h=>by rw[h.1,h.2.1,h.2.2]at hc23;cases hc23),show FC s (BB p) τ=⟨τ.dir,τ.name,τ.file,τ.ex,BB p,(Bd s τ.dir).1⟩ by unfold FC;rw[if_pos hc24,if_pos hc25]];rfl
 have hc24:=bp hb24;refine AA (w_ (l_ (h:=s_ (h:=a_ (h:=e_ (A4 (?_)))))));refine A8 ?_;rw[NW hc1 (by omega) ha had hT (fun h=>by rw[h.1,h.2.1,h.2.2]at hc23;cases hc23),show FC s (BB p) τ=⟨τ.dir,τ.name,τ.file,τ.ex,BB p,⟨#[]⟩⟩ by unfold FC;rw[if_neg (by simp[hc24])]];rfl
end
def NY(R:Syst×Int):AV:= .tup [.agg (Tk R.1), .v (.int .i64 R.2)]
section
theorem cF(a:AB):AFn prog 111 [.agg (AF a)] (fun r=>r= .agg (Q1 (Pz a))):=by
 refine enter Tryz.func111 rfl rfl rfl rfl rfl 0 rfl ?_;refine w_ (b_ (h:=Aa (h:=e_ (w_ (l_ (h:=?_))))));refine A6 rfl (H7 (y:= .agg (Q0 ⟨1,0,0,0,0,0,4294967295,4294967295,a,⟨#[105,110,105,116]⟩,⟨#[47,105,110,105,116]⟩,[],true⟩)) (E8 ⟨rfl,rfl⟩) ?_);refine Bc (h:=Ab (h:=s_ (h:=e_ (A4 (?_)))));refine A8 ?_;rfl
theorem cG(n:Int):AFn prog 60 [.v (.int .i64 n)] (fun r=>r=NY (Fr n)):=by
 refine enter Tryz.func60 rfl rfl rfl rfl rfl 0 rfl ?_;refine w_ (Aa (h:=a_ (h:=e_ (w_ (m_ (h:=?_))))));refine A6 rfl (AE (Rx n) ?_);rintro r rfl;refine m_ (h:=x_ (h:=x_ (h:=Aa (h:=s_ (h:=a_ (h:=e_ (q_ (w_ (m_ (h:=Aj (h:=e_ (?_))))))))))));refine A9 rfl (fun hb1=>?_) (fun hb1=>?_)
 ·have hc1:=bp hb1;refine w_ (Ab (h:=m_ (h:=s_ (h:=a_ (h:=e_ (A4 (A7 (?_))))))));refine Am (r:=NY (Fr n)) none (h5:=?_) (h6:=⟨rfl,rfl,rfl⟩);rw[Fr,if_pos (by simpa using hc1)];exact(by repeat (first|exact AZ _|exact LeA.nil _|exact LeL.refl _|refine LeA.agg ?_|refine LeA.tup ?_|exact LeL.nil|refine LeL.cons ?_ ?_|exact LeA.any _))
 have hc1:=bp hb1;refine AA (q_ (CB ([(1,As (E3 n).1)]) 7 (h:=AY 0 (h:=G7 1 (h:=G7 2 (h:=?_))))));refine c_ 3 rfl (AE (cF (0,1)) ?_);rintro r rfl;refine o_ (h:=G7 4 (h:=?_));refine Bi 5 rfl (Ba rfl rfl rfl rfl rfl rfl (by repeat constructor) (by repeat constructor) ?_);refine o_ (h:=BN 6 (h:=z_ (h:=t_ (A4 (?_)))));refine Am (r:=NY (Fr n)) none (h5:=?_) (h6:=⟨rfl,rfl,rfl⟩);rw[Fr,if_neg (by simpa using hc1)];exact(by repeat (first|exact AZ _|exact LeA.nil _|exact LeL.refl _|refine LeA.agg ?_|refine LeA.tup ?_|exact LeL.nil|refine LeL.cons ?_ ?_|exact LeA.any _))
end
theorem cH{f:Nat→Option AV}{bx:List (List AV)}{tk:List C8}{N:Dim}(i:Nat){row row':List AV}(hi:bx[i]?=some row)(hle:LeL row row'):Weak N ⟨f,⟨bx,tk⟩⟩ ⟨f,⟨bx.set i row',tk⟩⟩:=by
 rintro E a w ⟨G,h1,h2,h3⟩;exact⟨G,h1.boxLe hi (fun us hu=>hle G w us hu),h2,h3⟩
section
variable {P:Program}{rs:List ResultVar}{n:Nat}{R:AV→List (List AV)→List C8→Prop}{s:AS}{xs:List AV}{r:AV}
theorem g8(g:Option Nat){tk':List C8}(h1:ResA P s rs xs:=by repeat (first|exact ResA.nil|(apply ResA.tmp;(focus exact rfl))|(apply ResA.cellN;(focus exact inferInstance);(focus exact rfl);(focus exact rfl);(focus exact rfl))|(apply ResA.cell1;(focus exact inferInstance);(focus exact rfl);(focus exact rfl);(focus exact rfl))))(h2:Gv s.h.tk g=some tk':=by rfl)(h3:B9 n 1 (Ct g (Ds xs))=true:=by rfl)(h4:BF n 0 (s.h.bx.take n)=true:=by simp[BF,BA,B9,Q2 itmF,bp_wrk,WA,IB,fndS,DZ,Ao,AF,Q1,Ag,As])(h5:LeA (Ct g (Ds xs)) r)(h6:R r (s.h.bx.take n) tk'):Gw P rs n R .ret s:=MF g h1 h2 h3 h4 h5 h6
end
theorem g9{f:Nat→Option AV}{bx:List (List AV)}{tk:List (Nat×Nat×List (List AV))}{l:List (Nat×AV)}{N:Dim}(n m:Nat){bx':List (List AV)}{tk':List (Nat×Nat×List (List AV))}(hn:Nat.ble N.ni n=true:=by rfl)(hb:bx.take n=bx':=by rfl)(ht:tk.take m=tk':=by rfl)(hbp:BF n m bx'=true:=by simp[BF,BA,B9,Q2 itmF,bp_wrk,WA,IB,fndS,DZ,Ao,AF,Q1,Ag,As])(hl:Sub n m f l:=by repeat (first|exact Sub.nil|refine Sub.cons _ _ _ rfl rfl ?_|refine Sub.any _ _ ?_|refine Sub.sl _ _ _ _ _ rfl ?_|refine Sub.slnil _ _ _ rfl ?_)):Weak N ⟨f,⟨bx,tk⟩⟩ ⟨look l,⟨bx',tk'⟩⟩:=Ay n m hn hb ht hbp hl
structure Wch where
 kind:Int
 dir:AB
 name:AJ
 file:AB
deriving DecidableEq
def DU:Wch:=⟨0,(0,0),⟨#[]⟩,(0,0)⟩
def Bo(w:Wch):List AV:=[.v (.int .i64 w.kind), .v (.int .i64 w.dir.1), .v (.int .i64 w.dir.2), .v (.string w.name), .v (.int .i64 w.file.1), .v (.int .i64 w.file.2)]
def JN(s:Spc)(a:AB):Bool:=Aq s.files a&&C6 s a.1
def EP(s:Spc)(k:Int)(p:AJ):Wch×Int:=
 if(k≠1∧k≠2)∨D7 p.data.toList=false then(DU,22)
 else if(By s (0,0) p (decide (k=2))).2≠0 then(DU,(By s (0,0) p (decide (k=2))).2)
 else if k=2 then
  (if(By s (0,0) p true).1.ex=false then(DU,2)else if Aq s.files (By s (0,0) p true).1.file=false then(DU,20)
  else(⟨k,(0,0),⟨#[]⟩,(By s (0,0) p true).1.file⟩,0))
 else if(By s (0,0) p false).1.name=⟨#[]⟩then(DU,22)
 else(⟨k,(By s (0,0) p false).1.dir,(By s (0,0) p false).1.name,(AQ s.files (By s (0,0) p false).1.dir (By s (0,0) p false).1.name).1⟩,0)
def Dx(s:Spc)(w:Wch):Bool:=
 if w.kind=1 then JN s w.dir&&decide ((AQ s.files w.dir w.name).1=w.file)&&Cq w.name
 else if w.kind=2 then JN s w.file&&decide (w.dir=(0,0))&&decide (w.name=⟨#[]⟩)else false
def Lb(s:Spc)(a b:AB):Bool:=decide (a∈BM s (BU s.files) b)
def D9(s:Spc)(w:Wch)(dir:AB)(name:AJ)(file:AB):Bool:=
 if w.kind=1 then(decide (w.file≠(0,0))&&decide (file=w.file))||(decide (name≠⟨#[]⟩)&&decide (dir=w.dir)&&decide (name=w.name))
 else if w.kind=2 then Lb s w.file dir||Lb s w.file file else false
theorem cJ{s:Spc}{fl:Bool}{p:AJ}{ps:List AJ}{a:AB}{lk:Nat}{τ:Lk}(h:Bu s fl p ps a lk= .inr τ)(hn:τ.name≠⟨#[]⟩):τ.dir=a∧Aq s.files a=true:=by
 unfold Bu at h;split at h
 ·cases h
 rename_i c
 repeat' split at h
 all_goals first|(cases h;done)|(injection h with h;subst h;first|exact absurd rfl hn|exact⟨rfl,by simpa using c⟩)
section
variable {s:Spc}(hv:SpcV s)
include hv
theorem QD:Aq s.files (0,1)=true:=Pv hv (Int.le_refl 0) (by have:=hv.pos;omega)
theorem UD{a:AB}(h:Dn s a=true):JN s a=true:=by
 have h2:=K7 ((LX hv a).1 h).1.1;unfold JN;rw[h2.1,h2.2];rfl
theorem cK{fl:Bool}:∀(k:Nat) (σ:Lk),(Aq s.files σ.file=true→Dn s σ.file=true)→(σ.name≠⟨#[]⟩→Dn s σ.dir=true)→(Da s fl k σ).1=0→(Da s fl k σ).2.name≠⟨#[]⟩→Dn s (Da s fl k σ).2.dir=true:=by
 intro k
 induction k with
 |zero=>intro σ _ h _ hn;exact h hn
 |succ k ih=>
   intro σ h1 h2;unfold Da
   cases σ.ps with
   |nil=>exact fun _=>h2
   |cons p ps=>
     simp only
     cases hs:Bu s fl p ps σ.file σ.links with
     |inl e=>exact fun c=>absurd c (U0 hs)
     |inr τ=>exact ih τ (Tz hv (QD hv) h1 hs) fun hn=>by obtain⟨e1,e2⟩:=cJ hs hn;rw[e1];exact h1 e2
theorem cL{k:Int}{p:AJ}(h:(EP s k p).2=0):Dx s (EP s k p).1=true:=by
 unfold EP at h ⊢;split at h
 ·exact absurd h (by decide)
 rename_i c1;rw[if_neg c1];have hr:Dn s (Cs s)=true:=LY hv (Q6 hv (QD hv));split at h
 ·rename_i c2;exact absurd h c2
 rename_i c2;rw[if_neg c2]
 have hfnd:∀fl,(By s (0,0) p fl).2=0→∃σ,(Da s (fl||BB p) (Dp σ) σ).1=0∧(Aq s.files σ.file=true→Dn s σ.file=true)∧(σ.name≠⟨#[]⟩→Dn s σ.dir=true)∧(By s (0,0) p fl).1=FC s (BB p) (Da s (fl||BB p) (Dp σ) σ).2:=by
  intro fl h0;unfold By at h0 ⊢
  have hst:Aq s.files (if Ce p=true then Cs s else(0,0))=true→Dn s (if Ce p=true then Cs s else(0,0))=true:=by
   split
   ·exact fun _=>hr
   intro h;rw[Q7 hv]at h;cases h
  generalize (if Ce p=true then Cs s else(0,0))=d at h0 hst ⊢
  repeat' split at h0
  all_goals first|(exact absurd h0 (by decide);done)|(rename_i c;exact absurd h0 c;done)|skip
  rename_i d1 d2 d3 d4 d5;refine⟨Em (CT p) d,by have:=d4;unfold DM at this;simpa using this,hst,fun hn=>absurd rfl hn,?_⟩;rw[if_neg d1,if_neg d2,if_neg d3,if_neg d4,if_neg d5];rfl
 split at h
 ·rename_i c3;rw[if_pos c3];split at h
  ·exact absurd h (by decide)
  rename_i c4;rw[if_neg c4];split at h
  ·exact absurd h (by decide)
  rename_i c5;rw[if_neg c5];have c5:Aq s.files (By s (0,0) p true).1.file=true:=by simpa using c5
  have c2:(By s (0,0) p true).2=0:=by
   have:=c2;rw[decide_eq_true c3]at this
   simpa using this
  obtain⟨σ,h1,h2,h3,h4⟩:=hfnd true c2
  have hv2:Dn s (By s (0,0) p true).1.file=true:=by
   rw[h4]at c5 ⊢;exact Zy hv (QD hv) _ σ h2 h1 c5
  unfold Dx;simp only;rw[if_neg (by omega),if_pos c3,UD hv hv2];rfl
 rename_i c3;rw[if_neg c3];split at h
 ·exact absurd h (by decide)
 rename_i c4;rw[if_neg c4]
 have hk:k=1:=by
  simp only[not_or,not_and,Decidable.not_not]at c1;exact Decidable.byContradiction fun hk=>c3 (c1.1 hk)
 have c2:(By s (0,0) p false).2=0:=by
  have:=c2;rw[decide_eq_false c3]at this
  simpa using this
 obtain⟨σ,h1,h2,h3,h4⟩:=hfnd false c2
 have hv2:Dn s (By s (0,0) p false).1.dir=true:=by
  rw[h4]at c4 ⊢;exact cK hv _ σ h2 h3 h1 c4
 have hnm:Cq (By s (0,0) p false).1.name=true:=by
  obtain⟨τ,ht,he⟩:=aG hv (st:=(0,0)) (p:=p) (fl:=false) (x:=(By s (0,0) p false).1) (Prod.ext rfl c2);rw[he]at c4 ⊢;rcases ht with ht|ht
  ·exact absurd ht.1 c4
  exact ht.1
 unfold Dx;simp only;rw[if_pos hk,UD hv hv2,hnm];simp
end
theorem NZ(a b:AB)(w:World):(binOp .eql 26 (.agg #[.int .i64 a.1, .int .i64 a.2]) (.agg #[.int .i64 b.1, .int .i64 b.2])).run prog w= .ok (.bool (decide (a=b))) w:=Ki a.1 a.2 b.1 b.2 w
theorem cM(a b:AB)(w:World):(binOp .neq 26 (.agg #[.int .i64 a.1, .int .i64 a.2]) (.agg #[.int .i64 b.1, .int .i64 b.2])).run prog w= .ok (.bool (!decide (a=b))) w:=Ri a.1 a.2 b.1 b.2 w
def Na(R:Wch×Int):AV:= .tup [.agg (Bo R.1), .v (.int .i64 R.2)]
theorem UE(s:Spc)(k:Int)(p:AJ)(F:Fnd×Int)(hF:By s (0,0) p (decide (k=2))=F):EP s k p=if(k≠1∧k≠2)∨D7 p.data.toList=false then(DU,22)else if F.2≠0 then(DU,F.2)
    else if k=2 then(if F.1.ex=false then(DU,2)else if Aq s.files F.1.file=false then(DU,20)else(⟨k,(0,0),⟨#[]⟩,F.1.file⟩,0))
    else if F.1.name=⟨#[]⟩then(DU,22)else(⟨k,F.1.dir,F.1.name,(AQ s.files F.1.dir F.1.name).1⟩,0):=by
 unfold EP;rw[hF];by_cases h:k=2
 ·rw[decide_eq_true h]at hF;simp only[if_pos h,hF]
 rw[decide_eq_false h]at hF;simp only[if_neg h,hF]
theorem cO{f:Ac}{dir:AB}{name:AJ}(h:(AQ f dir name).2≠0):(AQ f dir name).1=(0,0):=by
 unfold AQ at h ⊢;split
 ·rfl
 rename_i n e;rw[e]at h;simp only at h;split at h
 ·rename_i c;rw[if_pos c];split
  ·rfl
  rename_i e2;rw[e2]at h;exact absurd rfl h
 rename_i c;rw[if_neg c]
section
theorem Nb(s:AJ)(hs:s.size≤60000):AFn prog 183 [.v (.string s)] (fun r=>r= .v (.bool (D7 s.data.toList))):=MV (us:=[.string s]) fun w=>aW s w (by omega)
theorem QE(s:Spc)(a:AB)(hs:SpcB s):AFn prog 119 [.agg (Ag s), .agg (AF a)] (fun r=>r= .v (.bool (Aq s.files a))):=by
 refine enter Tryz.func119 rfl rfl rfl rfl rfl 0 rfl ?_;refine w_ (b_ (h:=b_ (h:=a_ (h:=e_ (w_ (f_ (h:=l_ (h:=l_ (h:=?_)))))))));refine A6 rfl (AE (GA s.files a hs.files) ?_);rintro r rfl;refine m_ (h:=x_ (h:=x_ (h:=Aa (h:=s_ (h:=a_ (h:=e_ (w_ (m_ (h:=m_ (h:=?_))))))))));refine AU true rfl rfl (fun hb1=>?_) (fun hb1=>?_)
 ·have hc1:=bp hb1;refine f_ (h:=l_ (h:=AN (h:=AD (h:=a_ (h:=e_ (A4 (?_)))))));refine A8 ?_
  first|(exfalso;first|contradiction|omega)|(exact vb (by simp[FU, *]))
 have hc1:=bp hb1;refine A3 (h:=A3 (h:=A3 (h:=AG (h:=a_ (h:=e_ (A4 (?_)))))));refine A8 ?_
 first|(exfalso;first|contradiction|omega)|(exact vb (by simp[FU, *]))
theorem UF(s:Spc)(a:AB)(hs:SpcB s):AFn prog 132 [.agg (Ag s), .agg (AF a)] (fun r=>r= .v (.bool (JN s a))):=by
 refine enter Tryz.func132 rfl rfl rfl rfl rfl 0 rfl ?_;refine w_ (b_ (h:=b_ (h:=a_ (h:=e_ (w_ (l_ (h:=l_ (h:=?_))))))));refine A6 rfl (AE (QE s a hs) ?_);rintro r rfl;refine m_ (h:=?_);refine AU true rfl rfl (fun hb1=>?_) (fun hb1=>?_)
 ·have hc1:=bp hb1;refine l_ (h:=f_ (h:=l_ (h:=?_)));refine Ax (AE (Rk s a.1 hs) ?_);rintro r rfl;refine AD (h:=a_ (h:=e_ (A4 (?_))));refine A8 ?_
  first|(exfalso;first|contradiction|omega)|(exact vb (by simp[JN, *]))
 have hc1:=bp hb1;refine A3 (h:=A3 (h:=A3 (h:=A3 (h:=AG (h:=a_ (h:=e_ (A4 (?_))))))));refine A8 ?_
 first|(exfalso;first|contradiction|omega)|(exact vb (by simp[JN, *]))
theorem UG(s:Spc)(a:AB)(name:AJ)(hs:SpcB s):AFn prog 133 [.agg (Ag s), .agg (AF a), .v (.string name)] (fun r=>r= .agg (AF (AQ s.files a name).1)):=by
 refine enter Tryz.func133 rfl rfl rfl rfl rfl 0 rfl ?_;refine w_ (b_ (h:=b_ (h:=Aa (h:=e_ (w_ (f_ (h:=l_ (h:=l_ (h:=m_ (h:=?_))))))))));refine A6 rfl (AE (Q9 s.files a name hs.files) ?_);rintro r rfl;refine m_ (h:=x_ (h:=x_ (h:=Aa (h:=s_ (h:=a_ (h:=e_ (q_ (w_ (m_ (h:=Aj (h:=e_ (?_))))))))))));refine A9 rfl (fun hb1=>?_) (fun hb1=>?_)
 ·have hc1:=bp hb1;refine w_ (Ab (h:=s_ (h:=e_ (A4 (A7 (?_))))));refine A8 ?_;rw[cO (by simpa using hc1)];rfl
 have hc1:=bp hb1;refine AA (w_ (l_ (h:=s_ (h:=e_ (A4 (?_))))));refine A8 ?_;rfl
theorem cQ(s:Spc)(k:Int)(p:AJ)(hv:SpcV s)(hm:s.mounts.length≤1000)(hp:p.size≤50000):AFn prog 130 [.agg (Ag s), .v (.int .i64 k), .v (.string p)] (fun r=>r=Na (EP s k p)):=by
 have hsb:=hv.b hm;obtain⟨F,hF⟩:∃F,By s (0,0) p (decide (k=2))=F:=⟨_,rfl⟩;have hw:=UE s k p F hF;have hfind:AFn prog 141 [.agg (Ag s), .agg (AF (0,0)), .v (.string p), .v (.bool (decide (k=2)))] (fun r=>r= .tup [.agg (DZ F.1), .v (.int .i64 F.2)]):=by rw[←hF];exact cC s (0,0) p _ (hv.n hm) hv (by omega)
 refine enter Tryz.func130 rfl rfl rfl rfl rfl 0 rfl ?_;refine w_ (b_ (h:=Aa (h:=a_ (h:=e_ (q_ (?_))))));refine CH (fun S=>S=⟨look [(1, .v (.int .i64 k)),(2, .v (.string p)),(3, .bp 0 0),(6, .bp 1 0),(22, .v (.bool ((!decide (k=1)&& !decide (k=2))|| !D7 p.data.toList)))],⟨[Ag s,[.v (.int .i64 0), .v (.int .i64 0), .v (.int .i64 0), .v (.string ⟨#[]⟩), .v (.int .i64 0), .v (.int .i64 0)]],[]⟩⟩) ?_ ?_
 ·skip
  refine AT (m_ (h:=Aj (h:=m_ (h:=?_))));refine AU true rfl rfl (fun hb1=>?_) (fun hb1=>?_)
  ·have hc1:=bp hb1;refine m_ (h:=Aj (h:=AD (h:=m_ (h:=?_))));refine AU false rfl rfl (fun hb2=>?_) (fun hb2=>?_)
   ·have hc2:=bp hb2;refine A3 (h:=A3 (h:=A3 (h:=AD (h:=AP (?_)))));refine AK ?_;exact⟨_,rfl,Cy 2 0 rfl⟩
   have hc2:=bp hb2;refine m_ (h:=?_);refine Ax (AE (NK p hp) ?_);rintro r rfl;refine B7 (h:=AG (h:=AP (?_)));refine AK ?_;exact⟨_,rfl,Cy 2 0 rfl⟩
  have hc1:=bp hb1;refine A3 (h:=A3 (h:=AG (h:=m_ (h:=m_ (h:=?_)))));refine Ax (AE (NK p hp) ?_);rintro r rfl;refine B7 (h:=AG (h:=AP (?_)));refine AK ?_;exact⟨_,rfl,Cy 2 0 rfl⟩
 rintro S rfl;refine A9 rfl (fun hb3=>?_) (fun hb3=>?_)
 ·have hc3:=bp hb3;have k1:(k≠1∧k≠2)∨D7 p.data.toList=false:=by simpa using hc3
  refine w_ (Ab (h:=s_ (h:=a_ (h:=e_ (A4 (A7 (?_)))))));refine A8 ?_;rw[hw,if_pos k1];rfl
 have hc3:=bp hb3;have k1:¬((k≠1∧k≠2)∨D7 p.data.toList=false):=by simpa using hc3
 refine AA (w_ (l_ (h:=Ab (h:=m_ (h:=m_ (h:=AN (h:=?_)))))));refine A6 rfl (AE (hfind) ?_);rintro r rfl;refine m_ (h:=x_ (h:=x_ (h:=Aa (h:=s_ (h:=a_ (h:=e_ (q_ (w_ (m_ (h:=Aj (h:=e_ (?_))))))))))));refine A9 rfl (fun hb4=>?_) (fun hb4=>?_)
 ·have hc4:=bp hb4;have k2:F.2≠0:=by simpa using hc4
  refine w_ (Ab (h:=m_ (h:=s_ (h:=a_ (h:=e_ (A4 (A7 (?_))))))));refine A8 ?_;rw[hw,if_neg k1,if_pos k2];rfl
 have hc4:=bp hb4;have k2:¬F.2≠0:=by simpa using hc4
 refine AA (q_ (w_ (m_ (h:=AN (h:=e_ (?_))))));refine A9 rfl (fun hb5=>?_) (fun hb5=>?_)
 ·have hc5:=bp hb5;have k3:k=2:=hc5;refine q_ (w_ (f_ (h:=l_ (h:=B7 (h:=e_ (?_))))));refine A9 rfl (fun hb6=>?_) (fun hb6=>?_)
  ·have hc6:=bp hb6;have k4:F.1.ex=false:=by simpa using hc6
   refine w_ (Ab (h:=s_ (h:=a_ (h:=e_ (A4 (A7 (A7 (?_))))))));refine A8 ?_;rw[hw,if_neg k1,if_neg k2,if_pos k3,if_pos k4];rfl
  have hc6:=bp hb6;have k4:¬F.1.ex=false:=by simpa using hc6
  refine AA (q_ (w_ (f_ (h:=l_ (h:=f_ (h:=l_ (h:=?_)))))));refine A6 rfl (AE (GW s.files F.1.file hsb.files) ?_);rintro r rfl;refine B7 (h:=e_ (?_));refine A9 rfl (fun hb7=>?_) (fun hb7=>?_)
  ·have hc7:=bp hb7;have k5:Aq s.files F.1.file=false:=by simpa using hc7
   refine w_ (Ab (h:=s_ (h:=a_ (h:=e_ (A4 (A7 (A7 (?_))))))));refine A8 ?_;rw[hw,if_neg k1,if_neg k2,if_pos k3,if_neg k4,if_pos k5];rfl
  have hc7:=bp hb7;have k5:¬Aq s.files F.1.file=false:=by simpa using hc7
  refine AA (w_ (m_ (h:=f_ (h:=l_ (h:=Ab (h:=s_ (h:=a_ (h:=e_ (A4 (A7 (?_)))))))))));refine A8 ?_;rw[hw,if_neg k1,if_neg k2,if_pos k3,if_neg k4,if_neg k5];rfl
 have hc5:=bp hb5;have k3:¬k=2:=hc5;refine AA (q_ (w_ (f_ (h:=l_ (h:=AN (h:=e_ (?_)))))));refine A9 rfl (fun hb8=>?_) (fun hb8=>?_)
 ·have hc8:=bp hb8;have k6:F.1.name=⟨#[]⟩:=hc8;refine w_ (Ab (h:=s_ (h:=a_ (h:=e_ (A4 (A7 (?_)))))));refine A8 ?_;rw[hw,if_neg k1,if_neg k2,if_neg k3,if_pos k6];rfl
 have hc8:=bp hb8;have k6:¬F.1.name=⟨#[]⟩:=hc8;refine AA (w_ (f_ (h:=l_ (h:=f_ (h:=l_ (h:=f_ (h:=l_ (h:=?_))))))));refine A6 rfl (AE (HU s.files F.1.dir F.1.name hsb.files) ?_);rintro r rfl;refine m_ (h:=x_ (h:=x_ (h:=Aa (h:=s_ (h:=a_ (h:=e_ (w_ (m_ (h:=f_ (h:=l_ (h:=f_ (h:=l_ (h:=l_ (h:=Ab (h:=s_ (h:=a_ (h:=e_ (A4 (?_)))))))))))))))))));refine A8 ?_;rw[hw,if_neg k1,if_neg k2,if_neg k3,if_neg k6];rfl
theorem cR(s:Spc)(k:Int)(p:AJ)(hv:SpcV s)(hm:s.mounts.length≤1000)(hp:p.size≤50000):AFn prog 128 [.agg (Ag s), .v (.int .i64 k), .v (.string p)] (fun r=>r=Na (EP s k p)):=by
 have hsb:=hv.b hm;obtain⟨F,hF⟩:∃F,By s (0,0) p (decide (k=2))=F:=⟨_,rfl⟩;have hw:=UE s k p F hF;have hfind:AFn prog 184 [.agg (Ag s), .agg (AF (0,0)), .v (.string p), .v (.bool (decide (k=2)))] (fun r=>r= .tup [.agg (DZ F.1), .v (.int .i64 F.2)]):=by rw[←hF];exact cB s (0,0) p _ (hv.n hm) hv (by omega)
 refine enter Tryz.func128 rfl rfl rfl rfl rfl 0 rfl ?_;refine w_ (b_ (h:=Aa (h:=a_ (h:=e_ (q_ (?_))))));refine CH (fun S=>S=⟨look [(1, .v (.int .i64 k)),(2, .v (.string p)),(3, .bp 0 0),(6, .bp 1 0),(20, .v (.bool ((!decide (k=1)&& !decide (k=2))|| !D7 p.data.toList)))],⟨[Ag s,[.v (.int .i64 0), .v (.int .i64 0), .v (.int .i64 0), .v (.string ⟨#[]⟩), .v (.int .i64 0), .v (.int .i64 0)]],[]⟩⟩) ?_ ?_
 ·skip
  refine AT (m_ (h:=Aj (h:=m_ (h:=?_))));refine AU true rfl rfl (fun hb1=>?_) (fun hb1=>?_)
  ·have hc1:=bp hb1;refine m_ (h:=Aj (h:=AD (h:=m_ (h:=?_))));refine AU false rfl rfl (fun hb2=>?_) (fun hb2=>?_)
   ·have hc2:=bp hb2;refine A3 (h:=A3 (h:=A3 (h:=AD (h:=AP (?_)))));refine AK ?_;exact⟨_,rfl,Cy 2 0 rfl⟩
   have hc2:=bp hb2;refine m_ (h:=?_);refine Ax (AE (Nb p (by omega)) ?_);rintro r rfl;refine B7 (h:=AG (h:=AP (?_)));refine AK ?_;exact⟨_,rfl,Cy 2 0 rfl⟩
  have hc1:=bp hb1;refine A3 (h:=A3 (h:=AG (h:=m_ (h:=m_ (h:=?_)))));refine Ax (AE (Nb p (by omega)) ?_);rintro r rfl;refine B7 (h:=AG (h:=AP (?_)));refine AK ?_;exact⟨_,rfl,Cy 2 0 rfl⟩
 rintro S rfl;refine A9 rfl (fun hb3=>?_) (fun hb3=>?_)
 ·have hc3:=bp hb3;have k1:(k≠1∧k≠2)∨D7 p.data.toList=false:=by simpa using hc3
  refine w_ (Ab (h:=s_ (h:=a_ (h:=e_ (A4 (A7 (?_)))))));refine A8 ?_;rw[hw,if_pos k1];rfl
 have hc3:=bp hb3;have k1:¬((k≠1∧k≠2)∨D7 p.data.toList=false):=by simpa using hc3
 refine AA (w_ (l_ (h:=Ab (h:=m_ (h:=m_ (h:=AN (h:=?_)))))));refine A6 rfl (AE (hfind) ?_);rintro r rfl;refine m_ (h:=x_ (h:=x_ (h:=Aa (h:=s_ (h:=a_ (h:=e_ (q_ (w_ (m_ (h:=Aj (h:=e_ (?_))))))))))));refine A9 rfl (fun hb4=>?_) (fun hb4=>?_)
 ·have hc4:=bp hb4;have k2:F.2≠0:=by simpa using hc4
  refine w_ (Ab (h:=m_ (h:=s_ (h:=a_ (h:=e_ (A4 (A7 (?_))))))));refine A8 ?_;rw[hw,if_neg k1,if_pos k2];rfl
 have hc4:=bp hb4;have k2:¬F.2≠0:=by simpa using hc4
 refine AA (q_ (w_ (m_ (h:=AN (h:=e_ (?_))))));refine A9 rfl (fun hb5=>?_) (fun hb5=>?_)
 ·have hc5:=bp hb5;have k3:¬k=2:=by omega
  refine q_ (w_ (f_ (h:=l_ (h:=AN (h:=e_ (?_))))));refine A9 rfl (fun hb6=>?_) (fun hb6=>?_)
  ·have hc6:=bp hb6;have k6:F.1.name=⟨#[]⟩:=hc6;refine w_ (Ab (h:=s_ (h:=a_ (h:=e_ (A4 (A7 (A7 (?_))))))));refine A8 ?_;rw[hw,if_neg k1,if_neg k2,if_neg k3,if_pos k6];rfl
  have hc6:=bp hb6;have k6:¬F.1.name=⟨#[]⟩:=hc6;refine AA (q_ (CB ([(0,Ag s),(2,DZ F.1)]) 14 (h:=Ap 0 (h:=Az 1 (h:=?_)))))
  first|refine AY 2 (h:=?_)|refine BG 2 rfl (fun _ hS=>DW (row:=Ag s) rfl (kb hS rfl) (B8 rfl) rfl ⟨rfl,rfl⟩) ?_
  refine Az 3 (h:=?_)
  first|refine AY 4 (h:=?_)|refine BG 4 rfl (fun _ hS=>DW (row:=Ag s) rfl (kb hS rfl) (B8 rfl) rfl ⟨rfl,rfl⟩) ?_
  first|refine AY 5 (h:=?_)|refine BG 5 rfl (fun _ hS=>DW (row:=Ag s) rfl (kb hS rfl) (B8 rfl) rfl ⟨rfl,rfl⟩) ?_
  refine Az 6 (h:=?_)
  first|refine AY 7 (h:=?_)|refine BG 7 rfl (fun _ hS=>DW (row:=Ag s) rfl (kb hS rfl) (B8 rfl) rfl ⟨rfl,rfl⟩) ?_
  refine Az 8 (h:=?_)
  first|refine AY 9 (h:=?_)|refine BG 9 rfl (fun _ hS=>DW (row:=Ag s) rfl (kb hS rfl) (B8 rfl) rfl ⟨rfl,rfl⟩) ?_
  refine c_ 10 rfl (AE (UG s F.1.dir F.1.name hsb) ?_);rintro r rfl;refine o_ (h:=G7 11 (h:=?_));refine Bi 12 rfl (Ba rfl rfl rfl rfl rfl rfl (by repeat constructor) (by repeat constructor) ?_);refine o_ (h:=BN 13 (h:=z_ (h:=t_ (A4 (A7 (?_))))));refine A8 ?_;rw[hw,if_neg k1,if_neg k2,if_neg k3,if_neg k6];rfl
 have hc5:=bp hb5;have k3:k=2:=by simp at k1;omega
 refine AA (q_ (w_ (f_ (h:=l_ (h:=B7 (h:=e_ (?_)))))));refine A9 rfl (fun hb7=>?_) (fun hb7=>?_)
 ·have hc7:=bp hb7;have k4:F.1.ex=false:=by simpa using hc7
  refine w_ (Ab (h:=s_ (h:=a_ (h:=e_ (A4 (A7 (?_)))))));refine A8 ?_;rw[hw,if_neg k1,if_neg k2,if_pos k3,if_pos k4];rfl
 have hc7:=bp hb7;have k4:¬F.1.ex=false:=by simpa using hc7
 refine AA (q_ (w_ (l_ (h:=f_ (h:=l_ (h:=?_))))));refine A6 rfl (AE (QE s F.1.file hsb) ?_);rintro r rfl;refine B7 (h:=e_ (?_));refine A9 rfl (fun hb8=>?_) (fun hb8=>?_)
 ·have hc8:=bp hb8;have k5:Aq s.files F.1.file=false:=by simpa using hc8
  refine w_ (Ab (h:=s_ (h:=a_ (h:=e_ (A4 (A7 (?_)))))));refine A8 ?_;rw[hw,if_neg k1,if_neg k2,if_pos k3,if_neg k4,if_pos k5];rfl
 have hc8:=bp hb8;have k5:¬Aq s.files F.1.file=false:=by simpa using hc8
 refine AA (w_ (m_ (h:=f_ (h:=l_ (h:=Ab (h:=s_ (h:=a_ (h:=e_ (A4 (?_))))))))));refine A8 ?_;rw[hw,if_neg k1,if_neg k2,if_pos k3,if_neg k4,if_neg k5];rfl
theorem cT(s:Spc)(w:Wch)(hs:SpcB s):AFn prog 91 [.agg (Ag s), .agg (Bo w)] (fun r=>r= .v (.bool (Dx s w))):=by
 refine enter Tryz.func91 rfl rfl rfl rfl rfl 0 rfl ?_;refine w_ (b_ (h:=b_ (h:=a_ (h:=e_ (q_ (w_ (f_ (h:=l_ (h:=e_ (Af (w_ (AN (h:=a_ (h:=e_ (?_)))))))))))))));refine A9 rfl (fun hb1=>?_) (fun hb1=>?_)
 ·have hc1:=bp hb1;refine q_ (DE 21 (h:=Az 0 (h:=AY 1 (h:=?_))));refine c_ 2 rfl (AE (Tt w.name) ?_);rintro r rfl;refine o_ (h:=Ap 3 (h:=?_));refine Ht (j:=3) rfl (fun hb2=>?_) (fun hb2=>?_)
  ·have hc2:=bp hb2;refine AY 4 (h:=Az 5 (h:=AY 6 (h:=?_)));refine c_ 7 rfl (AE (UF s w.dir hs) ?_);rintro r rfl;refine o_ (h:=H5 8 (h:=Ap 9 (h:=?_)));refine Ht (j:=9) rfl (fun hb3=>?_) (fun hb3=>?_)
   ·have hc3:=bp hb3;refine Az 10 (h:=AY 11 (h:=AY 12 (h:=Az 13 (h:=AY 14 (h:=Az 15 (h:=AY 16 (h:=?_)))))));refine c_ 17 rfl (AE (UG s w.dir w.name hs) ?_);rintro r rfl;refine o_ (h:=?_);refine EV (i:=18) rfl (Ed rfl rfl (by repeat constructor) (by repeat constructor) (fun W=>NZ w.file (AQ s.files w.dir w.name).1 W) (by kernel_rfl) ⟨rfl,rfl⟩) ?_;refine H5 19 (h:=BN 20 (h:=z_ (h:=t_ (A4 (AR (A7 (?_)))))));refine A8 ?_
    first|(exfalso;first|contradiction|omega)|(exact vb (by first|(simp[Dx, *];done)|(simp[Dx, *,eq_comm];done)))
   have hc3:=bp hb3;refine Be 10 (h:=Be 11 (h:=Be 12 (h:=Be 13 (h:=Be 14 (h:=Be 15 (h:=Be 16 (h:=Be 17 (h:=Be 18 (h:=H6 19 (h:=BN 20 (h:=z_ (h:=t_ (A4 (AR (A7 (?_))))))))))))))));refine A8 ?_
   first|(exfalso;first|contradiction|omega)|(exact vb (by first|(simp[Dx, *];done)|(simp[Dx, *,eq_comm];done)))
  have hc2:=bp hb2;refine Be 4 (h:=Be 5 (h:=Be 6 (h:=Be 7 (h:=H6 8 (h:=Ap 9 (h:=Be 10 (h:=Be 11 (h:=Be 12 (h:=Be 13 (h:=Be 14 (h:=Be 15 (h:=Be 16 (h:=Be 17 (h:=Be 18 (h:=H6 19 (h:=BN 20 (h:=z_ (h:=t_ (A4 (AR (A7 (?_))))))))))))))))))))));refine A8 ?_
  first|(exfalso;first|contradiction|omega)|(exact vb (by first|(simp[Dx, *];done)|(simp[Dx, *,eq_comm];done)))
 have hc1:=bp hb1;refine w_ (AN (h:=a_ (h:=e_ (?_))));refine A9 rfl (fun hb4=>?_) (fun hb4=>?_)
 ·have hc4:=bp hb4;refine w_ (f_ (h:=l_ (h:=Ab (h:=?_))));refine A6 rfl (Ed rfl rfl (by repeat constructor) (by repeat constructor) (fun W=>NZ w.dir (0,0) W) (by kernel_rfl) ?_);refine m_ (h:=?_);refine AU true rfl rfl (fun hb5=>?_) (fun hb5=>?_)
  ·have hc5:=bp hb5;refine f_ (h:=l_ (h:=AN (h:=AD (h:=m_ (h:=?_)))));refine AU true rfl rfl (fun hb6=>?_) (fun hb6=>?_)
   ·have hc6:=bp hb6;refine l_ (h:=f_ (h:=l_ (h:=?_)));refine Ax (AE (UF s w.file hs) ?_);rintro r rfl;refine AD (h:=a_ (h:=e_ (A4 (AR (A7 (?_))))));refine A8 ?_
    first|(exfalso;first|contradiction|omega)|(exact vb (by first|(simp[Dx, *];done)|(simp[Dx, *,eq_comm];done)))
   have hc6:=bp hb6;refine A3 (h:=A3 (h:=A3 (h:=A3 (h:=AG (h:=a_ (h:=e_ (A4 (AR (A7 (?_))))))))));refine A8 ?_
   first|(exfalso;first|contradiction|omega)|(exact vb (by first|(simp[Dx, *];done)|(simp[Dx, *,eq_comm];done)))
  have hc5:=bp hb5;refine A3 (h:=A3 (h:=A3 (h:=AG (h:=m_ (h:=A3 (h:=A3 (h:=A3 (h:=A3 (h:=AG (h:=a_ (h:=e_ (A4 (AR (A7 (?_)))))))))))))));refine A8 ?_
  first|(exfalso;first|contradiction|omega)|(exact vb (by first|(simp[Dx, *];done)|(simp[Dx, *,eq_comm];done)))
 have hc4:=bp hb4;refine Av (Ai (t_ (w_ (a_ (h:=e_ (A4 (?_)))))));refine A8 ?_
 first|(exfalso;first|contradiction|omega)|(exact vb (by first|(simp[Dx, *];done)|(simp[Dx, *,eq_comm];done)))
end
end Go.Proofs.YtbgnigjfkbmceaaGreatDoor
