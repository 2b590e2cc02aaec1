/-
  Part 14 of the proof of FilterLoadsP: what the statement's proof uses of the texts in wip/tpl.
-/
import Derived.Test.YtbgnigjfkbmceaaGreatDoorQd13
open Go.Proofs.Tryz (prog)
set_option maxRecDepth 10000
set_option maxHeartbeats 4000000
set_option linter.unusedVariables false
set_option linter.unusedSimpArgs false
namespace Go.Proofs.YtbgnigjfkbmceaaGreatDoor
open Go.RowKit
def NL(s:Spc)(tg:AG)(rest:List AG)(w:Wk):Wk:=⟨CP tg++rest,if Ca tg=true then Cq s else w.at_,if Ca tg=true then(0,0)else w.dir,if Ca tg=true then⟨#[]⟩else w.name,w.missing,w.links+1⟩
theorem NM(s:Spc)(fl:Bool)(w:Wk):BD 0 0 (Db s fl w)=true:=rfl
section
theorem bG(s:Spc)(fl:Bool)(w:Wk)(tg:AG)(rest:List AG)(hs:SpcB s)(h8:w.links≤8)(htg:tg.size≤60000)(hrl:rest.length≤500000):MA prog 266 [.bp 0 0, .v (.string tg), .sl 1 (rest.map Ce) none] (Db s fl w) (fun r row'=>(w.links=8∧r= .v (.int .i64 40)∧row'=Db s fl w)∨(w.links≠8∧r= .v (.int .i64 0)∧row'=Db s fl (NL s tg rest w))):=by
 have hpl:=K5 tg;refine enter Tryz.func266 rfl rfl rfl rfl rfl 1 rfl ?_;refine w_ (a_ (h:=e_ (q_ (w_ (m_ (h:=k_ (h:=f_ (h:=l_ (h:=AN (h:=e_ (?_)))))))))));refine A9 rfl (fun hb1=>?_) (fun hb1=>?_)
 ·have hc1:=bp hb1;refine w_ (a_ (h:=e_ (A4 (A7 (?_)))));refine Au none (h5:=(AX _)) (h6:=⟨_,rfl,rfl, .inl ⟨by omega,rfl,rfl⟩⟩)
 have hc1:=bp hb1;refine AE (w_ (m_ (h:=k_ (h:=f_ (h:=l_ (h:=?_))))));refine A6 rfl (Hn rfl rfl (by omega) ?_);refine k_ (h:=f_ (h:=s_ (h:=e_ (w_ (m_ (h:=?_))))));refine A6 rfl (AJ (U0 tg htg) ?_);rintro r rfl;refine m_ (h:=x_ (h:=x_ (h:=x_ (h:=a_ (h:=a_ (h:=a_ (h:=e_ (w_ (m_ (h:=m_ (h:=m_ (h:=n_ (h:=m_ (h:=n_ (h:=?_)))))))))))))));refine b7 rfl rfl rfl rfl rfl rfl rfl rfl rfl rfl (by simp;omega) ?_;refine k_ (h:=f_ (h:=s_ (h:=e_ (q_ (w_ (m_ (h:=?_)))))));refine A6 rfl (AJ (bB tg) ?_);rintro r rfl;refine e_ (?_);refine A9 rfl (fun hb2=>?_) (fun hb2=>?_)
 ·have hc2:=bp hb2;refine AW (m_ (h:=m_ (h:=m_ (h:=m_ (h:=k_ (h:=f_ (h:=l_ (h:=?_))))))));refine A6 rfl (AJ (U2 s hs) ?_);rintro r rfl;refine Ab (h:=k_ (h:=f_ (h:=s_ (h:=k_ (h:=f_ (h:=s_ (h:=k_ (h:=f_ (h:=s_ (h:=e_ (w_ (a_ (h:=e_ (A4 (?_)))))))))))))));refine Au none (h5:=(AX _)) (h6:=⟨_,rfl,rfl, .inr ⟨by omega,rfl,by simp only[Db,NL,if_pos hc2,List.map_append];rfl⟩⟩)
 have hc2:=bp hb2;refine AE (w_ (a_ (h:=e_ (A4 (?_)))));refine Au none (h5:=(AX _)) (h6:=⟨_,rfl,rfl, .inr ⟨by omega,rfl,by simp only[Db,NL,hc2,if_neg (show¬false=true by simp),List.map_append];rfl⟩⟩)
theorem bH(s:Spc)(fl:Bool)(w:Wk)(p:AG)(ps:List AG)(hps:w.ps=p::ps)(hs:SpcB s)(hv:SpcV s)(h8:w.links≤8)(hrl:ps.length≤500000):MA prog 243 [.bp 0 0] (Db s fl w) (fun r row'=>(∃e,Da s fl p ps w= .inl e∧e≠0∧r= .v (.int .i64 e)∧row'=Db s fl w)∨∃w',Da s fl p ps w= .inr w'∧r= .v (.int .i64 0)∧row'=Db s fl w'):=by
 obtain⟨ps0,a,dr,nm,mi,lk⟩:=w;simp only at hps h8;subst hps;have hml:(ps.map Ce).length=ps.length:=by simp
 have htg:=LL hv.files (AO s.files a p).1;refine enter Tryz.func243 rfl rfl rfl rfl rfl 1 rfl ?_;refine w_ (a_ (h:=e_ (q_ (CE ([(0,Db s fl ⟨p::ps,a,dr,nm,mi,lk⟩)]) 13 (h:=Ap 0 (h:=Dj 1 (h:=Ay 2 (h:=AY 3 (h:=?_)))))))));refine BK 4 rfl (fun _ hS=>DV (n:=0) rfl rfl rfl rfl ⟨rfl,rfl⟩) ?_;refine AY 5 (h:=Ap 6 (h:=Dj 7 (h:=Ay 8 (h:=AY 9 (h:=?_)))));refine BK 10 rfl (fun _ hS=>Qe (l:=1) rfl rfl rfl (by simp) ⟨rfl,rfl⟩) ?_;refine BN 11 (h:=BN 12 (h:=z_ (h:=t_ (q_ (w_ (m_ (h:=?_)))))));refine A6 rfl (Fc 1 rfl (.cons _ _ _ _ _ rfl (AX _) .nil) (Pz s fl ⟨p::ps,a,dr,nm,mi,lk⟩ hs) ?_);rintro r rfl;refine⟨rfl,?_⟩;refine BB (h:=e_ (?_));refine A9 rfl (fun hb1=>?_) (fun hb1=>?_)
 ·have hc1:=bp hb1;refine w_ (a_ (h:=e_ (A4 (A7 (?_)))));refine Au none (h5:=(AX _)) (h6:=⟨_,rfl,rfl, .inl ⟨20,by unfold Da;rw[if_pos hc1],by decide,rfl,rfl⟩⟩)
 have hc1:=bp hb1;refine AE (q_ (w_ (m_ (h:=n_ (h:=Bb (h:=e_ (?_)))))));refine A9 rfl (fun hb2=>?_) (fun hb2=>?_)
 ·have hc2:=bp hb2;refine w_ (a_ (h:=e_ (A4 (A7 (?_)))));refine Au none (h5:=(AX _)) (h6:=⟨_,rfl,rfl, .inl ⟨36,by unfold Da;rw[if_neg (by simp[hc1]),if_pos (by omega)],by decide,rfl,rfl⟩⟩)
 have hc2:=bp hb2;refine AE (q_ (w_ (m_ (h:=e_ (Af (q_ (Af (q_ (Af (q_ (q_ (w_ (AN (h:=a_ (h:=e_ (?_))))))))))))))));refine A9 rfl (fun hb3=>?_) (fun hb3=>?_)
 ·have hc3:=bp hb3;refine BL (Ai (Ai (BM (t_ (?_)))));refine JQ (fun h=>∃x y,h.bx=[[.sl 2 (s.files.map Bi) none, .sl 3 (s.mounts.map Co) none, .sl 1 ((p::ps).map Ce) none,x,y, .v (.int .i64 dr.1), .v (.int .i64 dr.2), .v (.string nm), .v (.bool mi), .v (.bool fl), .v (.int .i64 (lk:Int))]]) 18 (by kernel_rfl) ?_;refine BG (i:=0) rfl rfl (by kernel_rfl) (by first|rfl|exact AM rfl rfl (B9 ‹_›)|exact AM rfl rfl (BA ‹_›)|exact AM rfl rfl (by simp[*])) (fun h0 hS=>E6 rfl ⟨rfl,rfl⟩) ⟨_,_,rfl⟩ ?_;refine BG (i:=1) rfl rfl (by kernel_rfl) (by first|rfl|exact AM rfl rfl (B9 ‹_›)|exact AM rfl rfl (BA ‹_›)|exact AM rfl rfl (by simp[*])) (fun h0 hS=>E6 rfl ⟨rfl,rfl⟩) ⟨_,_,rfl⟩ ?_
  first|refine BG (i:=2) rfl rfl (by kernel_rfl) (by first|rfl|exact AM rfl rfl (B9 ‹_›)|exact AM rfl rfl (BA ‹_›)|exact AM rfl rfl (by simp[*])) (fun h0 hS=>Fs rfl ⟨rfl,rfl⟩) ⟨_,_,rfl⟩ ?_|refine BG (i:=2) rfl rfl (by kernel_rfl) (by first|rfl|exact AM rfl rfl (B9 ‹_›)|exact AM rfl rfl (BA ‹_›)|exact AM rfl rfl (by simp[*])) (fun h0 hS=>Ft rfl ⟨rfl,rfl⟩) ⟨_,_,rfl⟩ ?_
  first|refine BG (i:=3) rfl rfl (by kernel_rfl) (by first|rfl|exact AM rfl rfl (B9 ‹_›)|exact AM rfl rfl (BA ‹_›)|exact AM rfl rfl (by simp[*])) (fun h0 hS=>Dn rfl ⟨rfl,rfl⟩) ⟨_,_,rfl⟩ ?_|refine BG (i:=3) rfl rfl (by kernel_rfl) (by first|rfl|exact AM rfl rfl (B9 ‹_›)|exact AM rfl rfl (BA ‹_›)|exact AM rfl rfl (by simp[*])) (fun h0 hS=>Fu rfl ⟨rfl,rfl⟩) ⟨_,_,rfl⟩ ?_
  first|refine BG (i:=4) rfl rfl (by kernel_rfl) (by first|rfl|exact AM rfl rfl (B9 ‹_›)|exact AM rfl rfl (BA ‹_›)|exact AM rfl rfl (by simp[*])) (fun h0 hS=>by obtain⟨x,y,e⟩:=hS;exact EN (row:=[.sl 2 (s.files.map Bi) none, .sl 3 (s.mounts.map Co) none, .sl 1 ((p::ps).map Ce) none,x,y, .v (.int .i64 dr.1), .v (.int .i64 dr.2), .v (.string nm), .v (.bool mi), .v (.bool fl), .v (.int .i64 (lk:Int))]) rfl (by rw[e];rfl) rfl (show _=AV.agg (Aj s)∧_ from⟨rfl,rfl⟩)) ⟨_,_,rfl⟩ ?_|refine BG (i:=4) rfl rfl (by kernel_rfl) (by first|rfl|exact AM rfl rfl (B9 ‹_›)|exact AM rfl rfl (BA ‹_›)|exact AM rfl rfl (by simp[*])) (fun h0 hS=>BY rfl rfl rfl ⟨rfl,rfl⟩) ⟨_,_,rfl⟩ ?_|refine BG (i:=4) rfl rfl (by kernel_rfl) (by first|rfl|exact AM rfl rfl (B9 ‹_›)|exact AM rfl rfl (BA ‹_›)|exact AM rfl rfl (by simp[*])) (fun h0 hS=>EX rfl rfl rfl ⟨rfl,rfl⟩) ⟨_,_,rfl⟩ ?_|refine BG (i:=4) rfl rfl (by kernel_rfl) (by first|rfl|exact AM rfl rfl (B9 ‹_›)|exact AM rfl rfl (BA ‹_›)|exact AM rfl rfl (by simp[*])) (fun h0 hS=>Fv rfl rfl ⟨rfl,rfl⟩) ⟨_,_,rfl⟩ ?_|refine BG (i:=4) rfl rfl (by kernel_rfl) (by first|rfl|exact AM rfl rfl (B9 ‹_›)|exact AM rfl rfl (BA ‹_›)|exact AM rfl rfl (by simp[*])) (fun h0 hS=>Gm rfl rfl ⟨rfl,rfl⟩) ⟨_,_,rfl⟩ ?_|refine BG (i:=4) rfl rfl (by kernel_rfl) (by first|rfl|exact AM rfl rfl (B9 ‹_›)|exact AM rfl rfl (BA ‹_›)|exact AM rfl rfl (by simp[*])) (fun h0 hS=>EN rfl rfl rfl ⟨rfl,rfl⟩) ⟨_,_,rfl⟩ ?_|refine BG (i:=4) rfl rfl (by kernel_rfl) (by first|rfl|exact AM rfl rfl (B9 ‹_›)|exact AM rfl rfl (BA ‹_›)|exact AM rfl rfl (by simp[*])) (fun h0 hS=>GG rfl rfl ⟨rfl,rfl⟩) ⟨_,_,rfl⟩ ?_
  refine BG (i:=5) rfl rfl (by kernel_rfl) (by first|rfl|exact AM rfl rfl (B9 ‹_›)|exact AM rfl rfl (BA ‹_›)|exact AM rfl rfl (by simp[*])) (fun h0 hS=>E6 rfl ⟨rfl,rfl⟩) ⟨_,_,rfl⟩ ?_
  first|refine BG (i:=6) rfl rfl (by kernel_rfl) (by first|rfl|exact AM rfl rfl (B9 ‹_›)|exact AM rfl rfl (BA ‹_›)|exact AM rfl rfl (by simp[*])) (fun h0 hS=>Fs rfl ⟨rfl,rfl⟩) ⟨_,_,rfl⟩ ?_|refine BG (i:=6) rfl rfl (by kernel_rfl) (by first|rfl|exact AM rfl rfl (B9 ‹_›)|exact AM rfl rfl (BA ‹_›)|exact AM rfl rfl (by simp[*])) (fun h0 hS=>Ft rfl ⟨rfl,rfl⟩) ⟨_,_,rfl⟩ ?_
  first|refine BG (i:=7) rfl rfl (by kernel_rfl) (by first|rfl|exact AM rfl rfl (B9 ‹_›)|exact AM rfl rfl (BA ‹_›)|exact AM rfl rfl (by simp[*])) (fun h0 hS=>Dn rfl ⟨rfl,rfl⟩) ⟨_,_,rfl⟩ ?_|refine BG (i:=7) rfl rfl (by kernel_rfl) (by first|rfl|exact AM rfl rfl (B9 ‹_›)|exact AM rfl rfl (BA ‹_›)|exact AM rfl rfl (by simp[*])) (fun h0 hS=>Fu rfl ⟨rfl,rfl⟩) ⟨_,_,rfl⟩ ?_
  first|refine BG (i:=8) rfl rfl (by kernel_rfl) (by first|rfl|exact AM rfl rfl (B9 ‹_›)|exact AM rfl rfl (BA ‹_›)|exact AM rfl rfl (by simp[*])) (fun h0 hS=>by obtain⟨x,y,e⟩:=hS;exact EN (row:=[.sl 2 (s.files.map Bi) none, .sl 3 (s.mounts.map Co) none, .sl 1 ((p::ps).map Ce) none,x,y, .v (.int .i64 dr.1), .v (.int .i64 dr.2), .v (.string nm), .v (.bool mi), .v (.bool fl), .v (.int .i64 (lk:Int))]) rfl (by rw[e];rfl) rfl (show _=AV.agg (Aj s)∧_ from⟨rfl,rfl⟩)) ⟨_,_,rfl⟩ ?_|refine BG (i:=8) rfl rfl (by kernel_rfl) (by first|rfl|exact AM rfl rfl (B9 ‹_›)|exact AM rfl rfl (BA ‹_›)|exact AM rfl rfl (by simp[*])) (fun h0 hS=>BY rfl rfl rfl ⟨rfl,rfl⟩) ⟨_,_,rfl⟩ ?_|refine BG (i:=8) rfl rfl (by kernel_rfl) (by first|rfl|exact AM rfl rfl (B9 ‹_›)|exact AM rfl rfl (BA ‹_›)|exact AM rfl rfl (by simp[*])) (fun h0 hS=>EX rfl rfl rfl ⟨rfl,rfl⟩) ⟨_,_,rfl⟩ ?_|refine BG (i:=8) rfl rfl (by kernel_rfl) (by first|rfl|exact AM rfl rfl (B9 ‹_›)|exact AM rfl rfl (BA ‹_›)|exact AM rfl rfl (by simp[*])) (fun h0 hS=>Fv rfl rfl ⟨rfl,rfl⟩) ⟨_,_,rfl⟩ ?_|refine BG (i:=8) rfl rfl (by kernel_rfl) (by first|rfl|exact AM rfl rfl (B9 ‹_›)|exact AM rfl rfl (BA ‹_›)|exact AM rfl rfl (by simp[*])) (fun h0 hS=>Gm rfl rfl ⟨rfl,rfl⟩) ⟨_,_,rfl⟩ ?_|refine BG (i:=8) rfl rfl (by kernel_rfl) (by first|rfl|exact AM rfl rfl (B9 ‹_›)|exact AM rfl rfl (BA ‹_›)|exact AM rfl rfl (by simp[*])) (fun h0 hS=>EN rfl rfl rfl ⟨rfl,rfl⟩) ⟨_,_,rfl⟩ ?_|refine BG (i:=8) rfl rfl (by kernel_rfl) (by first|rfl|exact AM rfl rfl (B9 ‹_›)|exact AM rfl rfl (BA ‹_›)|exact AM rfl rfl (by simp[*])) (fun h0 hS=>GG rfl rfl ⟨rfl,rfl⟩) ⟨_,_,rfl⟩ ?_
  refine BG (i:=9) rfl rfl (by kernel_rfl) (by first|rfl|exact AM rfl rfl (B9 ‹_›)|exact AM rfl rfl (BA ‹_›)|exact AM rfl rfl (by simp[*])) (fun h0 hS=>E6 rfl ⟨rfl,rfl⟩) ⟨_,_,rfl⟩ ?_
  first|refine BG (i:=10) rfl rfl (by kernel_rfl) (by first|rfl|exact AM rfl rfl (B9 ‹_›)|exact AM rfl rfl (BA ‹_›)|exact AM rfl rfl (by simp[*])) (fun h0 hS=>Fs rfl ⟨rfl,rfl⟩) ⟨_,_,rfl⟩ ?_|refine BG (i:=10) rfl rfl (by kernel_rfl) (by first|rfl|exact AM rfl rfl (B9 ‹_›)|exact AM rfl rfl (BA ‹_›)|exact AM rfl rfl (by simp[*])) (fun h0 hS=>Ft rfl ⟨rfl,rfl⟩) ⟨_,_,rfl⟩ ?_
  first|refine BG (i:=11) rfl rfl (by kernel_rfl) (by first|rfl|exact AM rfl rfl (B9 ‹_›)|exact AM rfl rfl (BA ‹_›)|exact AM rfl rfl (by simp[*])) (fun h0 hS=>Dn rfl ⟨rfl,rfl⟩) ⟨_,_,rfl⟩ ?_|refine BG (i:=11) rfl rfl (by kernel_rfl) (by first|rfl|exact AM rfl rfl (B9 ‹_›)|exact AM rfl rfl (BA ‹_›)|exact AM rfl rfl (by simp[*])) (fun h0 hS=>Fu rfl ⟨rfl,rfl⟩) ⟨_,_,rfl⟩ ?_
  first|refine c_ 12 rfl (BY rfl rfl rfl ?_)|refine c_ 12 rfl (EX rfl rfl rfl ?_)|refine c_ 12 rfl (Fv rfl rfl ?_)|refine c_ 12 rfl (Gm rfl rfl ?_)|refine c_ 12 rfl (EN rfl rfl rfl ?_)|refine c_ 12 rfl (GG rfl rfl ?_)
  refine⟨.inr ⟨_,_,rfl⟩,?_⟩;refine c_ 13 rfl (AJ (ZD hs hv a) ?_);rintro r rfl;refine⟨.inr ⟨_,_,rfl⟩,?_⟩;refine c_ 14 rfl (AJ (OY s (D3 s (s.mounts.length+1) a) hs) ?_);rintro r rfl;refine⟨.inr ⟨_,_,rfl⟩,?_⟩
  first|refine BG (i:=15) rfl rfl (by kernel_rfl) (by first|rfl|exact AM rfl rfl (B9 ‹_›)|exact AM rfl rfl (BA ‹_›)|exact AM rfl rfl (by simp[*])) (fun h0 hS=>Fs rfl ⟨rfl,rfl⟩) ⟨_,_,rfl⟩ ?_|refine BG (i:=15) rfl rfl (by kernel_rfl) (by first|rfl|exact AM rfl rfl (B9 ‹_›)|exact AM rfl rfl (BA ‹_›)|exact AM rfl rfl (by simp[*])) (fun h0 hS=>Ft rfl ⟨rfl,rfl⟩) ⟨_,_,rfl⟩ ?_
  first|refine BG (i:=16) rfl rfl (by kernel_rfl) (by first|rfl|exact AM rfl rfl (B9 ‹_›)|exact AM rfl rfl (BA ‹_›)|exact AM rfl rfl (by simp[*])) (fun h0 hS=>Dn rfl ⟨rfl,rfl⟩) ⟨_,_,rfl⟩ ?_|refine BG (i:=16) rfl rfl (by kernel_rfl) (by first|rfl|exact AM rfl rfl (B9 ‹_›)|exact AM rfl rfl (BA ‹_›)|exact AM rfl rfl (by simp[*])) (fun h0 hS=>Fu rfl ⟨rfl,rfl⟩) ⟨_,_,rfl⟩ ?_
  refine Bm 17 rfl (Bd rfl rfl rfl rfl rfl rfl (by repeat constructor) (by repeat constructor) ?_);refine⟨.inr ⟨_,_,rfl⟩,?_⟩;refine z_ (h:=Al (t_ (q_ (w_ (m_ (h:=m_ (h:=m_ (h:=m_ (h:=Ab (h:=k_ (h:=f_ (h:=s_ (h:=k_ (h:=f_ (h:=s_ (h:=k_ (h:=f_ (h:=s_ (h:=e_ (w_ (a_ (h:=e_ (A4 (?_))))))))))))))))))))))));refine A7 (AP (A7 (?_)));refine Au none (h5:=(AX _)) (h6:=⟨_,rfl,rfl, .inr ⟨⟨ps,CV s s.mounts.length (D3 s (s.mounts.length+1) a),(0,0),⟨#[]⟩,mi,lk⟩,by unfold Da;rw[if_neg (by simp[hc1]),if_neg (by omega),if_pos hc3],rfl,rfl⟩⟩)
 have hc3:=bp hb3;refine AE (w_ (AN (h:=a_ (h:=e_ (?_)))));refine A9 rfl (fun hb4=>?_) (fun hb4=>?_)
 ·have hc4:=bp hb4;refine BL (Ai (KK rfl (Ai (BM (t_ (q_ (w_ (m_ (h:=m_ (h:=m_ (h:=m_ (h:=Ab (h:=k_ (h:=f_ (h:=s_ (h:=k_ (h:=f_ (h:=s_ (h:=k_ (h:=f_ (h:=s_ (h:=e_ (w_ (?_))))))))))))))))))))))));refine a_ (h:=e_ (A4 (A7 (AP (A7 (?_))))));refine Au none (h5:=(AX _)) (h6:=⟨_,rfl,rfl, .inr ⟨⟨ps,a,(0,0),⟨#[]⟩,mi,lk⟩,by unfold Da;rw[if_neg (by simp[hc1]),if_neg (by omega),if_neg hc3,if_pos hc4],rfl,rfl⟩⟩)
 have hc4:=bp hb4;refine AE (BL (KK rfl (Ai (KK rfl (Ai (BM (t_ (q_ (w_ (m_ (h:=?_)))))))))));refine A6 rfl (AJ (To p) ?_);rintro r rfl;refine BB (h:=e_ (?_));refine A9 rfl (fun hb5=>?_) (fun hb5=>?_)
 ·have hc5:=bp hb5;refine w_ (a_ (h:=e_ (A4 (A7 (?_)))));refine Au none (h5:=(AX _)) (h6:=⟨_,rfl,rfl, .inl ⟨2,by unfold Da;rw[if_neg (by simp[hc1]),if_neg (by omega),if_neg hc3,if_neg hc4,if_pos hc5],by decide,rfl,rfl⟩⟩)
 have hc5:=bp hb5;refine AE (?_);refine EO (⟨look [(0, .bp 0 0),(3, .v (.string p)),(4, .sl 1 (ps.map Ce) none),(5, .bp 1 0),(6, .v (.int .i64 (AO s.files a p).2))],⟨[Db s fl ⟨p::ps,a,dr,nm,mi,lk⟩,AD (AO s.files a p).1],[]⟩⟩) ?_ ?_
 ·skip
  refine CE ([(0,Db s fl ⟨p::ps,a,dr,nm,mi,lk⟩)]) 17 (h:=Ap 0 (h:=Dj 1 (h:=Ay 2 (h:=Ay 3 (h:=AY 4 (h:=Ap 5 (h:=Dj 6 (h:=Ay 7 (h:=AY 8 (h:=Ap 9 (h:=?_)))))))))));refine Gs 10 14 rfl rfl ?_ ?_
  ·refine AJ (Py s.files a p hs.files) ?_;rintro r rfl;refine o_ (h:=?_);refine Ap 11 (h:=C2 12 (h:=C2 13 (h:=?_)));refine c_ 14 rfl (Dx (by repeat constructor) ?_);refine o_ (h:=?_);refine Bm 15 rfl (Bd rfl rfl rfl rfl rfl rfl (by repeat constructor) (by repeat constructor) ?_);refine o_ (h:=BN 16 (h:=z_ (h:=?_)));refine AK ?_
   first|(exfalso;first|contradiction|omega)|exact Az 2 0 rfl rfl rfl rfl (by repeat (first|exact Sub.nil|refine B0 rfl rfl ?_|refine B3 ?_|refine B4 rfl ?_|refine B5 rfl ?_|(apply Sub.of;(focus exact rfl);(focus exact LeA.of_eq (vb (by rfl)));(focus exact rfl))))
  refine Dx (by repeat constructor) ?_;refine o_ (h:=?_);refine c_ 10 rfl (AJ (Py s.files a p hs.files) ?_);rintro r rfl;refine o_ (h:=Ap 11 (h:=C2 12 (h:=C2 13 (h:=?_))));refine Bm 15 rfl (Bd rfl rfl rfl rfl rfl rfl (by repeat constructor) (by repeat constructor) ?_);refine o_ (h:=BN 16 (h:=z_ (h:=?_)));refine AK ?_
  first|(exfalso;first|contradiction|omega)|exact Az 2 0 rfl rfl rfl rfl (by repeat (first|exact Sub.nil|refine B0 rfl rfl ?_|refine B3 ?_|refine B4 rfl ?_|refine B5 rfl ?_|(apply Sub.of;(focus exact rfl);(focus exact LeA.of_eq (vb (by rfl)));(focus exact rfl))))
 skip
 refine q_ (w_ (m_ (h:=Ao (h:=e_ (?_)))));refine A9 rfl (fun hb6=>?_) (fun hb6=>?_)
 ·have hc6:=bp hb6;refine q_ (w_ (m_ (h:=n_ (h:=Bb (h:=e_ (?_))))));refine A9 rfl (fun hb7=>?_) (fun hb7=>?_)
  ·have hc7:=bp hb7;have hps:ps≠[]:=fun e=>by rw[e]at hml hc7;simp at hc7
   refine w_ (a_ (h:=e_ (A4 (A7 (A7 (?_))))));refine Au none (h5:=(AX _)) (h6:=⟨_,rfl,rfl, .inl ⟨2,by unfold Da;rw[if_neg (by simp[hc1]),if_neg (by omega),if_neg hc3,if_neg hc4,if_neg (by simp[hc5]),if_pos hc6,if_pos hps],by decide,rfl,rfl⟩⟩)
  have hc7:=bp hb7;have hps:¬ps≠[]:=fun e=>e (Cj (by omega));refine AE (w_ (m_ (h:=m_ (h:=m_ (h:=m_ (h:=m_ (h:=m_ (h:=k_ (h:=f_ (h:=l_ (h:=m_ (h:=k_ (h:=f_ (h:=s_ (h:=k_ (h:=f_ (h:=s_ (h:=k_ (h:=f_ (h:=s_ (h:=k_ (h:=f_ (h:=s_ (h:=?_))))))))))))))))))))))));refine e_ (w_ (a_ (h:=e_ (A4 (A7 (?_))))));refine Au none (h5:=(AX _)) (h6:=⟨_,rfl,rfl, .inr ⟨⟨ps,a,a,p,true,lk⟩,by unfold Da;rw[if_neg (by simp[hc1]),if_neg (by omega),if_neg hc3,if_neg hc4,if_neg (by simp[hc5]),if_pos hc6,if_neg hps],rfl,rfl⟩⟩)
 have hc6:=bp hb6;refine AE (?_);refine EO (⟨look [(0, .bp 0 0),(3, .v (.string p)),(4, .sl 1 (ps.map Ce) none),(5, .bp 1 0),(7, .bp 2 0)],⟨[Db s fl ⟨p::ps,a,dr,nm,mi,lk⟩,AD (AO s.files a p).1,Ak (As s.files (AO s.files a p).1)],[]⟩⟩) ?_ ?_
 ·skip
  refine CE ([(0,Db s fl ⟨p::ps,a,dr,nm,mi,lk⟩),(1,AD (AO s.files a p).1)]) 13 (h:=Ap 0 (h:=Dj 1 (h:=Ay 2 (h:=Ay 3 (h:=AY 4 (h:=AY 5 (h:=?_)))))));refine Gs 6 10 rfl rfl ?_ ?_
  ·refine AJ (G5 s.files (AO s.files a p).1 hs.files) ?_;rintro r rfl;refine o_ (h:=?_);refine Ap 7 (h:=C2 8 (h:=C2 9 (h:=?_)));refine c_ 10 rfl (Dx (by repeat constructor) ?_);refine o_ (h:=?_);refine Bm 11 rfl (Bd rfl rfl rfl rfl rfl rfl (by repeat constructor) (by repeat constructor) ?_);refine o_ (h:=BN 12 (h:=z_ (h:=?_)));refine AK ?_
   first|(exfalso;first|contradiction|omega)|exact Az 3 0 rfl rfl rfl rfl (by repeat (first|exact Sub.nil|refine B0 rfl rfl ?_|refine B3 ?_|refine B4 rfl ?_|refine B5 rfl ?_|(apply Sub.of;(focus exact rfl);(focus exact LeA.of_eq (vb (by rfl)));(focus exact rfl))))
  refine Dx (by repeat constructor) ?_;refine o_ (h:=?_);refine c_ 6 rfl (AJ (G5 s.files (AO s.files a p).1 hs.files) ?_);rintro r rfl;refine o_ (h:=Ap 7 (h:=C2 8 (h:=C2 9 (h:=?_))));refine Bm 11 rfl (Bd rfl rfl rfl rfl rfl rfl (by repeat constructor) (by repeat constructor) ?_);refine o_ (h:=BN 12 (h:=z_ (h:=?_)));refine AK ?_
  first|(exfalso;first|contradiction|omega)|exact Az 3 0 rfl rfl rfl rfl (by repeat (first|exact Sub.nil|refine B0 rfl rfl ?_|refine B3 ?_|refine B4 rfl ?_|refine B5 rfl ?_|(apply Sub.of;(focus exact rfl);(focus exact LeA.of_eq (vb (by rfl)));(focus exact rfl))))
 skip
 refine q_ (?_);refine EO (⟨look [(0, .bp 0 0),(3, .v (.string p)),(4, .sl 1 (ps.map Ce) none),(5, .bp 1 0),(7, .bp 2 0),(122, .v (.bool (decide ((As s.files (AO s.files a p).1).kind=3)&&(decide (0<((ps.map Ce).length:Int))||fl))))],⟨[Db s fl ⟨p::ps,a,dr,nm,mi,lk⟩,AD (AO s.files a p).1,Ak (As s.files (AO s.files a p).1)],[]⟩⟩) ?_ ?_
 ·skip
  refine AW (f_ (h:=l_ (h:=AN (h:=m_ (h:=?_)))));refine AR true rfl rfl (fun hb8=>?_) (fun hb8=>?_)
  ·have hc8:=bp hb8;refine m_ (h:=n_ (h:=Bb (h:=m_ (h:=?_))));refine AR false rfl rfl (fun hb9=>?_) (fun hb9=>?_)
   ·have hc9:=bp hb9;refine A3 (h:=A3 (h:=A3 (h:=A3 (h:=AB (h:=AB (h:=AQ (?_)))))));refine AK ?_
    first|(exfalso;first|contradiction|omega)|exact Az 3 0 rfl rfl rfl rfl (by repeat (first|exact Sub.nil|refine B0 rfl rfl ?_|refine B3 ?_|refine B4 rfl ?_|refine B5 rfl ?_|(apply Sub.of;(focus exact rfl);(focus exact LeA.of_eq (vb (by first|(rw[hb8];rfl)|(rw[hb8,hb9];rfl))));(focus exact rfl))))
   have hc9:=bp hb9;refine m_ (h:=k_ (h:=f_ (h:=l_ (h:=AF (h:=AB (h:=AQ (?_)))))));refine AK ?_
   first|(exfalso;first|contradiction|omega)|exact Az 3 0 rfl rfl rfl rfl (by repeat (first|exact Sub.nil|refine B0 rfl rfl ?_|refine B3 ?_|refine B4 rfl ?_|refine B5 rfl ?_|(apply Sub.of;(focus exact rfl);(focus exact LeA.of_eq (vb (by first|(rw[hb8];rfl)|(rw[hb8,hb9];rfl))));(focus exact rfl))))
  have hc8:=bp hb8;refine A3 (h:=A3 (h:=A3 (h:=A3 (h:=AU (h:=AU (h:=AU (h:=AU (h:=A3 (h:=AF (h:=AQ (?_)))))))))));refine AK ?_
  first|(exfalso;first|contradiction|omega)|exact Az 3 0 rfl rfl rfl rfl (by repeat (first|exact Sub.nil|refine B0 rfl rfl ?_|refine B3 ?_|refine B4 rfl ?_|refine B5 rfl ?_|(apply Sub.of;(focus exact rfl);(focus exact LeA.of_eq (vb (by first|(rw[hb8];rfl)|(rw[hb8,hb9];rfl))));(focus exact rfl))))
 skip
 refine A9 rfl (fun hb10=>?_) (fun hb10=>?_)
 ·have hc10:=bp hb10
  have hlk:(As s.files (AO s.files a p).1).kind=3∧(ps≠[]∨fl=true):=by
   simp only[Bool.and_eq_true,Bool.or_eq_true,decide_eq_true_eq]at hc10;exact⟨hc10.1,hc10.2.imp (fun h e=>by rw[e]at h;simp at h) id⟩
  refine w_ (m_ (h:=f_ (h:=l_ (h:=m_ (h:=?_)))));refine A6 rfl (O5 0 rfl (by repeat (first|exact ArgsB.nil|refine ArgsB.cons _ _ _ _ _ rfl rfl ?_)) rfl rfl (bG s fl ⟨p::ps,a,dr,nm,mi,lk⟩ (As s.files (AO s.files a p).1).target ps hs h8 (by omega) hrl) ?_);rintro r row2 (⟨h9,rfl,rfl⟩|⟨h9,rfl,rfl⟩)
  ·refine⟨NM _ _ _,rfl,_,(by repeat constructor),?_⟩;refine a_ (h:=e_ (A4 (A7 (?_))));refine Au none (h5:=(AX _)) (h6:=⟨_,rfl,rfl, .inl ⟨40,by unfold Da;rw[if_neg (by simp[hc1]),if_neg (by omega),if_neg hc3,if_neg hc4,if_neg (by simp[hc5]),if_neg (by simp[hc6]),if_pos hlk,if_pos h9],by decide,rfl,rfl⟩⟩)
  refine⟨NM _ _ _,rfl,_,(by repeat constructor),?_⟩;refine a_ (h:=e_ (A4 (A7 (?_))));refine Au none (h5:=(AX _)) (h6:=⟨_,rfl,rfl, .inr ⟨NL s (As s.files (AO s.files a p).1).target ps ⟨p::ps,a,dr,nm,mi,lk⟩,by unfold Da;rw[if_neg (by simp[hc1]),if_neg (by omega),if_neg hc3,if_neg hc4,if_neg (by simp[hc5]),if_neg (by simp[hc6]),if_pos hlk,if_neg h9];rfl,rfl,rfl⟩⟩)
 have hc10:=bp hb10
 have hlk:¬((As s.files (AO s.files a p).1).kind=3∧(ps≠[]∨fl=true)):=fun h=>by
  rw[decide_eq_true h.1,Bool.true_and,Bool.or_eq_false_iff]at hc10;rcases h.2 with e|e
  ·exact e (Cj (by have:=of_decide_eq_false hc10.1;omega))
  rw[hc10.2]at e;cases e
 refine AE (w_ (m_ (h:=m_ (h:=m_ (h:=m_ (h:=m_ (h:=k_ (h:=f_ (h:=l_ (h:=m_ (h:=k_ (h:=f_ (h:=s_ (h:=k_ (h:=f_ (h:=s_ (h:=k_ (h:=f_ (h:=s_ (h:=e_ (q_ (?_))))))))))))))))))))));refine JQ (fun h=>∃x y r,h.bx=[[.sl 2 (s.files.map Bi) none, .sl 3 (s.mounts.map Co) none, .sl 1 (ps.map Ce) none,x,y, .v (.int .i64 a.1), .v (.int .i64 a.2), .v (.string p), .v (.bool mi), .v (.bool fl), .v (.int .i64 (lk:Int))],AD (AO s.files a p).1]++r) 10 (by kernel_rfl) ?_;refine BG (i:=0) rfl rfl (by kernel_rfl) (by first|rfl|exact AM rfl rfl (B9 ‹_›)|exact AM rfl rfl (BA ‹_›)|exact AM rfl rfl (by simp[*])) (fun h0 hS=>E6 rfl ⟨rfl,rfl⟩) ⟨_,_,_,rfl⟩ ?_;refine BG (i:=1) rfl rfl (by kernel_rfl) (by first|rfl|exact AM rfl rfl (B9 ‹_›)|exact AM rfl rfl (BA ‹_›)|exact AM rfl rfl (by simp[*])) (fun h0 hS=>E6 rfl ⟨rfl,rfl⟩) ⟨_,_,_,rfl⟩ ?_
 first|refine BG (i:=2) rfl rfl (by kernel_rfl) (by first|rfl|exact AM rfl rfl (B9 ‹_›)|exact AM rfl rfl (BA ‹_›)|exact AM rfl rfl (by simp[*])) (fun h0 hS=>Fs rfl ⟨rfl,rfl⟩) ⟨_,_,_,rfl⟩ ?_|refine BG (i:=2) rfl rfl (by kernel_rfl) (by first|rfl|exact AM rfl rfl (B9 ‹_›)|exact AM rfl rfl (BA ‹_›)|exact AM rfl rfl (by simp[*])) (fun h0 hS=>Ft rfl ⟨rfl,rfl⟩) ⟨_,_,_,rfl⟩ ?_
 first|refine BG (i:=3) rfl rfl (by kernel_rfl) (by first|rfl|exact AM rfl rfl (B9 ‹_›)|exact AM rfl rfl (BA ‹_›)|exact AM rfl rfl (by simp[*])) (fun h0 hS=>Dn rfl ⟨rfl,rfl⟩) ⟨_,_,_,rfl⟩ ?_|refine BG (i:=3) rfl rfl (by kernel_rfl) (by first|rfl|exact AM rfl rfl (B9 ‹_›)|exact AM rfl rfl (BA ‹_›)|exact AM rfl rfl (by simp[*])) (fun h0 hS=>Fu rfl ⟨rfl,rfl⟩) ⟨_,_,_,rfl⟩ ?_
 first|refine BG (i:=4) rfl rfl (by kernel_rfl) (by first|rfl|exact AM rfl rfl (B9 ‹_›)|exact AM rfl rfl (BA ‹_›)|exact AM rfl rfl (by simp[*])) (fun h0 hS=>by obtain⟨x,y,r,e⟩:=hS;exact EN (row:=[.sl 2 (s.files.map Bi) none, .sl 3 (s.mounts.map Co) none, .sl 1 (ps.map Ce) none,x,y, .v (.int .i64 a.1), .v (.int .i64 a.2), .v (.string p), .v (.bool mi), .v (.bool fl), .v (.int .i64 (lk:Int))]) rfl (by rw[e];rfl) rfl (show _=AV.agg (Aj s)∧_ from⟨rfl,rfl⟩)) ⟨_,_,_,rfl⟩ ?_|refine BG (i:=4) rfl rfl (by kernel_rfl) (by first|rfl|exact AM rfl rfl (B9 ‹_›)|exact AM rfl rfl (BA ‹_›)|exact AM rfl rfl (by simp[*])) (fun h0 hS=>by obtain⟨x,y,r,e⟩:=hS;exact EX (row:=AD (AO s.files a p).1) rfl (by rw[e];rfl) rfl ⟨rfl,rfl⟩) ⟨_,_,_,rfl⟩ ?_|refine BG (i:=4) rfl rfl (by kernel_rfl) (by first|rfl|exact AM rfl rfl (B9 ‹_›)|exact AM rfl rfl (BA ‹_›)|exact AM rfl rfl (by simp[*])) (fun h0 hS=>BY rfl rfl rfl ⟨rfl,rfl⟩) ⟨_,_,_,rfl⟩ ?_|refine BG (i:=4) rfl rfl (by kernel_rfl) (by first|rfl|exact AM rfl rfl (B9 ‹_›)|exact AM rfl rfl (BA ‹_›)|exact AM rfl rfl (by simp[*])) (fun h0 hS=>EX rfl rfl rfl ⟨rfl,rfl⟩) ⟨_,_,_,rfl⟩ ?_|refine BG (i:=4) rfl rfl (by kernel_rfl) (by first|rfl|exact AM rfl rfl (B9 ‹_›)|exact AM rfl rfl (BA ‹_›)|exact AM rfl rfl (by simp[*])) (fun h0 hS=>Fv rfl rfl ⟨rfl,rfl⟩) ⟨_,_,_,rfl⟩ ?_|refine BG (i:=4) rfl rfl (by kernel_rfl) (by first|rfl|exact AM rfl rfl (B9 ‹_›)|exact AM rfl rfl (BA ‹_›)|exact AM rfl rfl (by simp[*])) (fun h0 hS=>Gm rfl rfl ⟨rfl,rfl⟩) ⟨_,_,_,rfl⟩ ?_|refine BG (i:=4) rfl rfl (by kernel_rfl) (by first|rfl|exact AM rfl rfl (B9 ‹_›)|exact AM rfl rfl (BA ‹_›)|exact AM rfl rfl (by simp[*])) (fun h0 hS=>EN rfl rfl rfl ⟨rfl,rfl⟩) ⟨_,_,_,rfl⟩ ?_|refine BG (i:=4) rfl rfl (by kernel_rfl) (by first|rfl|exact AM rfl rfl (B9 ‹_›)|exact AM rfl rfl (BA ‹_›)|exact AM rfl rfl (by simp[*])) (fun h0 hS=>GG rfl rfl ⟨rfl,rfl⟩) ⟨_,_,_,rfl⟩ ?_
 first|refine BG (i:=5) rfl rfl (by kernel_rfl) (by first|rfl|exact AM rfl rfl (B9 ‹_›)|exact AM rfl rfl (BA ‹_›)|exact AM rfl rfl (by simp[*])) (fun h0 hS=>by obtain⟨x,y,r,e⟩:=hS;exact EN (row:=[.sl 2 (s.files.map Bi) none, .sl 3 (s.mounts.map Co) none, .sl 1 (ps.map Ce) none,x,y, .v (.int .i64 a.1), .v (.int .i64 a.2), .v (.string p), .v (.bool mi), .v (.bool fl), .v (.int .i64 (lk:Int))]) rfl (by rw[e];rfl) rfl (show _=AV.agg (Aj s)∧_ from⟨rfl,rfl⟩)) ⟨_,_,_,rfl⟩ ?_|refine BG (i:=5) rfl rfl (by kernel_rfl) (by first|rfl|exact AM rfl rfl (B9 ‹_›)|exact AM rfl rfl (BA ‹_›)|exact AM rfl rfl (by simp[*])) (fun h0 hS=>by obtain⟨x,y,r,e⟩:=hS;exact EX (row:=AD (AO s.files a p).1) rfl (by rw[e];rfl) rfl ⟨rfl,rfl⟩) ⟨_,_,_,rfl⟩ ?_|refine BG (i:=5) rfl rfl (by kernel_rfl) (by first|rfl|exact AM rfl rfl (B9 ‹_›)|exact AM rfl rfl (BA ‹_›)|exact AM rfl rfl (by simp[*])) (fun h0 hS=>EX rfl rfl rfl ⟨rfl,rfl⟩) ⟨_,_,_,rfl⟩ ?_
 refine c_ 6 rfl (AJ (OY s (AO s.files a p).1 hs) ?_);rintro r rfl;refine⟨.inr ⟨_,_,_,rfl⟩,?_⟩
 first|refine BG (i:=7) rfl rfl (by kernel_rfl) (by first|rfl|exact AM rfl rfl (B9 ‹_›)|exact AM rfl rfl (BA ‹_›)|exact AM rfl rfl (by simp[*])) (fun h0 hS=>Fs rfl ⟨rfl,rfl⟩) ⟨_,_,_,rfl⟩ ?_|refine BG (i:=7) rfl rfl (by kernel_rfl) (by first|rfl|exact AM rfl rfl (B9 ‹_›)|exact AM rfl rfl (BA ‹_›)|exact AM rfl rfl (by simp[*])) (fun h0 hS=>Ft rfl ⟨rfl,rfl⟩) ⟨_,_,_,rfl⟩ ?_
 first|refine BG (i:=8) rfl rfl (by kernel_rfl) (by first|rfl|exact AM rfl rfl (B9 ‹_›)|exact AM rfl rfl (BA ‹_›)|exact AM rfl rfl (by simp[*])) (fun h0 hS=>Dn rfl ⟨rfl,rfl⟩) ⟨_,_,_,rfl⟩ ?_|refine BG (i:=8) rfl rfl (by kernel_rfl) (by first|rfl|exact AM rfl rfl (B9 ‹_›)|exact AM rfl rfl (BA ‹_›)|exact AM rfl rfl (by simp[*])) (fun h0 hS=>Fu rfl ⟨rfl,rfl⟩) ⟨_,_,_,rfl⟩ ?_
 refine Bm 9 rfl (Bd rfl rfl rfl rfl rfl rfl (by repeat constructor) (by repeat constructor) ?_);refine⟨.inr ⟨_,_,_,rfl⟩,?_⟩;refine z_ (h:=t_ (w_ (a_ (h:=e_ (A4 (?_))))));refine Au none (h5:=(AX _)) (h6:=⟨_,rfl,rfl, .inr ⟨⟨ps,CV s s.mounts.length (AO s.files a p).1,a,p,mi,lk⟩,by unfold Da;rw[if_neg (by simp[hc1]),if_neg (by omega),if_neg hc3,if_neg hc4,if_neg (by simp[hc5]),if_neg (by simp[hc6]),if_neg hlk],rfl,rfl⟩⟩)
end
theorem bJ{s:Spc}(hv:SpcV s):Am s.files (Cq s)=true:=(K4 ((LW hv _).1 (LX hv (Pv hv (Pm hv (Int.le_refl 0) (by have:=hv.pos;omega))))).1.1).1
theorem bK{s:Spc}(fl:Bool){p:AG}{ps:List AG}{w w':Wk}(hn:w.name.size≤12)(h:Da s fl p ps w= .inr w'):w'.name.size≤12:=by
 unfold Da at h;split at h
 ·cases h
 split at h
 ·cases h
 rename_i h2;split at h
 ·injection h with h;subst h;exact BU _
 split at h
 ·injection h with h;subst h;exact BU _
 split at h
 ·cases h
 split at h
 ·split at h
  ·cases h
  injection h with h;subst h;exact Nat.le_of_not_lt h2
 split at h
 ·split at h
  ·cases h
  injection h with h;subst h;show ByteArray.size (if _ then _ else _)≤12;split
  ·exact BU _
  exact hn
 injection h with h;subst h;exact Nat.le_of_not_lt h2
theorem Q0{s:Spc}(hv:FlsV s.files)(fl:Bool){p:AG}{ps:List AG}{w w':Wk}(hl:w.links≤8)(h:Da s fl p ps w= .inr w'):w'.links≤8∧(8 - w'.links) * 200+w'.ps.length<(8 - w.links) * 200+(ps.length+1):=by
 unfold Da at h;split at h
 ·cases h
 split at h
 ·cases h
 split at h
 ·injection h with h;subst h;exact⟨hl,by simp only;omega⟩
 split at h
 ·injection h with h;subst h;exact⟨hl,by simp only;omega⟩
 split at h
 ·cases h
 split at h
 ·split at h
  ·cases h
  injection h with h;subst h;exact⟨hl,by simp only;omega⟩
 split at h
 ·split at h
  ·cases h
  rename_i h9;injection h with h;subst h;have ht:=LL hv (AO s.files w.at_ p).1;have hs:=K5 (As s.files (AO s.files w.at_ p).1).target;refine⟨by simp only;omega,?_⟩;simp only[List.length_append]
  have:(8 - w.links) * 200=(8 - (w.links+1)) * 200+200:=by
   rw[show 8 - w.links=(8 - (w.links+1))+1 by omega,Nat.add_mul]
  omega
 injection h with h;subst h;exact⟨hl,by simp only;omega⟩
theorem U3{s:Spc}{start:AA}{p:AG}{fl:Bool}(h1:¬p=⟨#[]⟩)(h2:128<p.size):Bt s start p fl=(DE,36):=by unfold Bt;rw[if_neg h1,if_pos h2]
section
variable {s:Spc}{start a:AA}{p:AG}{fl:Bool}(h1:¬p=⟨#[]⟩)(h2:¬128<p.size)(ha:(if Ca p=true then Cq s else start)=a)
include h1 h2 ha
theorem U4(hd:Am s.files a=false):Bt s start p fl=(DE,2):=by
 unfold Bt;rw[if_neg h1,if_neg h2,ha,if_pos hd]
variable (hd:Am s.files a=true)
include hd
theorem K7{e:Int}{τ:Lk}(h:DF s (fl||B7 p) (Ej (CP p) a)=(e,τ))(he:e≠0):Bt s start p fl=(DE,e):=by
 unfold Bt;rw[if_neg h1,if_neg h2,ha,if_neg (by simp[hd]),h,if_pos he]
theorem U5{τ:Lk}(h:DF s (fl||B7 p) (Ej (CP p) a)=(0,τ))(hs:B7 p=true∧τ.ex=true∧Am s.files τ.file=false):Bt s start p fl=(DE,20):=by
 unfold Bt;rw[if_neg h1,if_neg h2,ha,if_neg (by simp[hd]),h,if_neg (by simp),if_pos hs]
theorem NN{τ:Lk}(h:DF s (fl||B7 p) (Ej (CP p) a)=(0,τ))(hs:¬(B7 p=true∧τ.ex=true∧Am s.files τ.file=false)):Bt s start p fl=(F8 s (B7 p) τ,0):=by
 unfold Bt;rw[if_neg h1,if_neg h2,ha,if_neg (by simp[hd]),h,if_neg (by simp),if_neg hs]
end
theorem bL(ps:List AG)(a d:AA)(hd:ps=[]→True):Sim ⟨ps,a,d,⟨#[]⟩,false,0⟩ (Ej ps a):=by
 have _:=hd;exact⟨rfl,rfl,rfl,fun _=>rfl,fun h=>(by cases h),fun _ _=>⟨fun _=>⟨rfl,rfl⟩,fun h=>absurd rfl h⟩⟩
def NO(s:Spc)(F:Bool)(σ0:Lk)(w:Wk):Prop:=w.links≤8∧w.name.size≤12∧∃σ,Sim w σ∧DF s F σ=DF s F σ0
theorem U6{s:Spc}(hv:SpcV s){F:Bool}{σ0:Lk}{w:Wk}{p:AG}{ps:List AG}(hps:w.ps=p::ps)(h:NO s F σ0 w):(∀e,Da s F p ps w= .inl e→DF s F σ0=(e,LU))∧∀w',Da s F p ps w= .inr w'→NO s F σ0 w':=by
 obtain⟨h8,hn,σ,hS,hT⟩:=h
 have hm:w.missing=false:=by
  cases hm:w.missing with
  |false=>rfl
  |true=>have:=(hS.gone hm).2.1;rw[hps]at this;cases this
 have h8σ:σ.links≤8:=by rw[←hS.links];exact h8
 have hc:=Te hv.files (fl:=F) h8σ (hS.ps.symm.trans hps);rcases Zx hv F (p:=p) (ps:=ps) hS hm with⟨e,q1,q2⟩|⟨w1,τ,q1,q2,q3⟩
 ·refine⟨fun e' he=>?_,fun w' hw=>by rw[q1]at hw;cases hw⟩;rw[q1]at he;injection he with he;subst he;rw[←hT,hc,q2]
 refine⟨fun e' he=>by(rw[q1]at he;cases he),fun w' hw=>?_⟩;have k1:=Q0 hv.files F h8 hw;have k2:=bK F hn hw;rw[q1]at hw;injection hw with hw;subst hw;refine⟨k1.1,k2,τ,q3,?_⟩;rw[←hT,hc,q2]
theorem bM{s:Spc}(hv:SpcV s){F:Bool}{σ0:Lk}{w:Wk}(hps:w.ps=[])(h:NO s F σ0 w):∃σ,DF s F σ0=(0,σ)∧σ.ex= !w.missing∧(w.missing=false→σ.file=w.at_)∧∀sl,FA s sl w=F8 s sl σ:=by
 obtain⟨h8,hn,σ,hS,hT⟩:=h;exact⟨σ,by rw[←hT];exact Pp (hS.ps.symm.trans hps),hS.ex,fun hm=>(hS.here hm).symm,fun sl=>Zy hv hS hps⟩
section
theorem bO(s:Spc)(start:AA)(p:AG)(fl:Bool)(hs:SpcN s)(hv:SpcV s)(hp:p.size≤1000000):AFn prog 184 [.agg (Aj s), .agg (AD start), .v (.string p), .v (.bool fl)] (fun r=>r= .tup [.agg (Dh (Bt s start p fl).1), .v (.int .i64 (Bt s start p fl).2)]):=by
 have hw:=Pe hv;have hri:=bJ hv;refine enter Tryz.func184 rfl rfl rfl rfl rfl 0 rfl ?_;refine w_ (b_ (h:=b_ (h:=Ac (h:=a_ (h:=e_ (q_ (Af (w_ (m_ (h:=AN (h:=a_ (h:=e_ (?_)))))))))))));refine A9 rfl (fun hb1=>?_) (fun hb1=>?_)
 ·have hc1:=bp hb1;refine w_ (Ab (h:=s_ (h:=a_ (h:=e_ (A4 (AP (A7 (?_))))))));refine A8 ?_;rw[show Bt s start p fl=(DE,2) from if_pos hc1];rfl
 have hc1:=bp hb1;refine w_ (m_ (h:=n_ (h:=Bb (h:=a_ (h:=e_ (?_))))));refine A9 rfl (fun hb2=>?_) (fun hb2=>?_)
 ·have hc2:=bp hb2;refine w_ (Ab (h:=s_ (h:=a_ (h:=e_ (A4 (AP (A7 (?_))))))));refine A8 ?_;rw[U3 hc1 (by omega)];rfl
 have hc2:=bp hb2;refine Aw (Al (t_ (w_ (m_ (h:=?_)))));refine A6 rfl (AJ (U0 p (by omega)) ?_);rintro r rfl;refine m_ (h:=x_ (h:=x_ (h:=x_ (h:=a_ (h:=a_ (h:=a_ (h:=e_ (?_))))))));refine CA (fun t=>t=⟨look [(2, .v (.string p)),(4, .bp 0 0),(5, .bp 1 0),(8, .bp 2 0),(11, .v (.bool (Ca p))),(12, .v (.bool (B7 p))),(13, .bp 3 0)],⟨[Aj s,AD start,Dh DE,Db s (fl||B7 p) ⟨CP p,start,(0,0),⟨#[]⟩,false,0⟩],[]⟩⟩) ?_ ?_
 ·skip
  refine AW (l_ (h:=m_ (h:=l_ (h:=m_ (h:=m_ (h:=?_))))));refine AR false rfl rfl (fun hb3=>?_) (fun hb3=>?_)
  ·have hc3:=bp hb3;refine A3 (h:=AB (h:=Ab (h:=Ac (h:=s_ (h:=AQ (?_))))));refine AK ?_
   first|(rw[hb3];exact⟨_,rfl,(wk 4 0)⟩)|exact⟨_,rfl,(wk 4 0)⟩
  have hc3:=bp hb3;refine m_ (h:=AF (h:=Ab (h:=Ac (h:=s_ (h:=AQ (?_))))));refine AK ?_
  first|(rw[hb3];exact⟨_,rfl,(wk 4 0)⟩)|exact⟨_,rfl,(wk 4 0)⟩
 rintro t rfl;refine CA (fun t=>∃a,(if Ca p=true then Cq s else start)=a∧Am s.files a=true∧t=⟨look [(4, .bp 0 0),(8, .bp 2 0),(12, .v (.bool (B7 p))),(13, .bp 3 0)],⟨[Aj s,AD start,Dh DE,Db s (fl||B7 p) ⟨CP p,a,(0,0),⟨#[]⟩,false,0⟩],[]⟩⟩) ?_ ?_
 ·skip
  refine w_ (m_ (h:=e_ (?_)));refine A9 rfl (fun hb4=>?_) (fun hb4=>?_)
  ·have hc4:=bp hb4;refine AW (l_ (h:=?_));refine A6 rfl (AJ (U2 s hs.b) ?_);rintro r rfl;refine f_ (h:=s_ (h:=AQ (?_)));refine AK ?_
   first|exact⟨_,⟨Cq s,if_pos hc4,hri,rfl⟩,(wk 4 0)⟩|exact⟨_,⟨start,if_neg (by simp[hc4]),by simpa using hc5,rfl⟩,(wk 4 0)⟩
  have hc4:=bp hb4;refine w_ (?_);refine A6 rfl (Fc 1 rfl (.cons _ _ _ _ _ rfl (AX _) .nil) (Pz s (fl||B7 p) ⟨CP p,start,(0,0),⟨#[]⟩,false,0⟩ hs.b) ?_);rintro r rfl;refine⟨rfl,?_⟩;refine BB (h:=e_ (?_));refine A9 rfl (fun hb5=>?_) (fun hb5=>?_)
  ·have hc5:=bp hb5;refine w_ (Ab (h:=s_ (h:=a_ (h:=e_ (A4 (A7 (?_)))))));refine A8 ?_;rw[U4 hc1 (by omega) (if_neg (by simp[hc4])) (by simpa using hc5)];rfl
  have hc5:=bp hb5;refine Aw (?_);refine AK ?_
  first|exact⟨_,⟨Cq s,if_pos hc4,hri,rfl⟩,(wk 4 0)⟩|exact⟨_,⟨start,if_neg (by simp[hc4]),by simpa using hc5,rfl⟩,(wk 4 0)⟩
 rintro t ⟨a,ha,had,rfl⟩;refine q_ (Af (?_));refine BW (fun m t=>∃w,NO s (fl||B7 p) (Ej (CP p) a) w∧m=(8 - w.links) * 200+w.ps.length∧m≤1600+(p.size+1)∧t=⟨look [(4, .bp 0 0),(8, .bp 2 0),(12, .v (.bool (B7 p))),(13, .bp 3 0)],⟨[Aj s,AD start,Dh DE,Db s (fl||B7 p) w],[]⟩⟩) ((8 - 0) * 200+(CP p).length) ((wk 4 0)) (⟨_,⟨BU _,BU _,_,bL (CP p) a (0,0) (fun _=>trivial),rfl⟩,rfl,by have:=K5 p;omega,rfl⟩) ?_;rintro m t ⟨w,hR,rfl,hm,rfl⟩;have hml:(w.ps.map Ce).length=w.ps.length:=by simp
 refine q_ (w_ (f_ (h:=l_ (h:=n_ (h:=Bb (h:=e_ (?_)))))));refine A9 rfl (fun hb6=>?_) (fun hb6=>?_)
 ·have hc6:=bp hb6
  obtain⟨q,qs,hqs⟩:∃q qs,w.ps=q::qs:=by
   cases hq:w.ps with
   |nil=>rw[hq]at hml hc6;simp at hc6
   |cons q qs=>exact⟨q,qs,rfl⟩
  have hql:w.ps.length=qs.length+1:=by rw[hqs];rfl
  refine AE (Af (w_ (?_)));refine A6 rfl (O5 3 rfl (by repeat (first|exact ArgsB.nil|refine ArgsB.cons _ _ _ _ _ rfl rfl ?_)) rfl rfl (bH s (fl||B7 p) w q qs hqs hs.b hv hR.1 (by omega)) ?_);rintro r row2 (⟨e,he,he0,rfl,rfl⟩|⟨w2,hw2,rfl,rfl⟩)
  ·refine⟨NM _ _ _,rfl,_,(by repeat constructor),?_⟩;refine a_ (h:=e_ (w_ (m_ (h:=Ao (h:=e_ (?_))))));refine A9 rfl (fun hb7=>?_) (fun hb7=>?_)
   ·have hc7:=bp hb7;refine w_ (Ab (h:=m_ (h:=s_ (h:=a_ (h:=e_ (A4 (AP (A7 (AP (A7 (?_)))))))))));refine A8 ?_;rw[K7 hc1 (by omega) ha had ((U6 hv hqs hR).1 e he) he0];rfl
   have hc7:=bp hb7;exact absurd hc7 he0
  refine⟨NM _ _ _,rfl,_,(by repeat constructor),?_⟩;refine a_ (h:=e_ (w_ (m_ (h:=Ao (h:=e_ (?_))))));refine A9 rfl (fun hb8=>?_) (fun hb8=>?_)
  ·have hc8:=bp hb8;exact absurd rfl hc8
  have hc8:=bp hb8;refine Aw (Al (?_));refine AK ?_;exact⟨(8 - w2.links) * 200+w2.ps.length,_,(by have:=(Q0 hv.files _ hR.1 hw2).2;omega),⟨w2,(U6 hv hqs hR).2 w2 hw2,rfl,by have:=(Q0 hv.files _ hR.1 hw2).2;omega,rfl⟩,(wk 4 0)⟩
 have hc6:=bp hb6;have hps:w.ps=[]:=Cj (by omega);obtain⟨σ,hT,hσx,hσf,hσe⟩:=bM hv hps hR;refine BL (Ai (Ai (BM (t_ (q_ (?_))))));refine EO (⟨look [(8, .bp 2 0),(12, .v (.bool (B7 p))),(13, .bp 3 0),(63, .v (.bool (B7 p&&(!w.missing&& !Am s.files w.at_))))],⟨[Aj s,AD start,Dh DE,Db s (fl||B7 p) w],[]⟩⟩) ?_ ?_
 ·skip
  refine AW (m_ (h:=m_ (h:=?_)));refine AR true rfl rfl (fun hb9=>?_) (fun hb9=>?_)
  ·have hc9:=bp hb9;refine f_ (h:=l_ (h:=BB (h:=AB (h:=m_ (h:=?_)))));refine AR true rfl rfl (fun hb10=>?_) (fun hb10=>?_)
   ·have hc10:=bp hb10;refine Av (Fc 1 rfl (.cons _ _ _ _ _ rfl (AX _) .nil) (Pz s (fl||B7 p) w hs.b) ?_);rintro r rfl;refine⟨rfl,?_⟩;refine BB (h:=AB (h:=AQ (?_)));refine AK ?_
    first|(exfalso;first|contradiction|omega)|exact Az 4 0 rfl rfl rfl rfl (by repeat (first|exact Sub.nil|refine B0 rfl rfl ?_|refine B3 ?_|refine B4 rfl ?_|refine B5 rfl ?_|(apply Sub.of;(focus exact rfl);(focus exact LeA.of_eq (vb (by first|(rw[hb9];rfl)|(rw[hb9,hb10];rfl))));(focus exact rfl))))
   have hc10:=bp hb10;refine A3 (h:=A3 (h:=AF (h:=AQ (?_))));refine AK ?_
   first|(exfalso;first|contradiction|omega)|exact Az 4 0 rfl rfl rfl rfl (by repeat (first|exact Sub.nil|refine B0 rfl rfl ?_|refine B3 ?_|refine B4 rfl ?_|refine B5 rfl ?_|(apply Sub.of;(focus exact rfl);(focus exact LeA.of_eq (vb (by first|(rw[hb9];rfl)|(rw[hb9,hb10];rfl))));(focus exact rfl))))
  have hc9:=bp hb9;refine A3 (h:=A3 (h:=A3 (h:=AF (h:=m_ (h:=A3 (h:=A3 (h:=AF (h:=AQ (?_)))))))));refine AK ?_
  first|(exfalso;first|contradiction|omega)|exact Az 4 0 rfl rfl rfl rfl (by repeat (first|exact Sub.nil|refine B0 rfl rfl ?_|refine B3 ?_|refine B4 rfl ?_|refine B5 rfl ?_|(apply Sub.of;(focus exact rfl);(focus exact LeA.of_eq (vb (by first|(rw[hb9];rfl)|(rw[hb9,hb10];rfl))));(focus exact rfl))))
 skip
 refine A9 rfl (fun hb11=>?_) (fun hb11=>?_)
 ·have hc11:=bp hb11;refine w_ (Ab (h:=s_ (h:=a_ (h:=e_ (A4 (A7 (?_)))))));refine A8 ?_;rw[U5 hc1 (by omega) ha had hT (by simp only[Bool.and_eq_true,Bool.not_eq_true']at hc11;exact⟨hc11.1,by rw[hσx,hc11.2.1];rfl,by rw[hσf hc11.2.1];exact hc11.2.2⟩)];rfl
 have hc11:=bp hb11;refine AE (w_ (m_ (h:=?_)));refine A6 rfl (Fc 1 rfl (.cons _ _ _ _ _ rfl (AX _) (.cons _ _ _ _ _ rfl (AX _) .nil)) (bF s (fl||B7 p) (B7 p) w hs hw (by have:=hR.2.1;omega)) ?_);rintro r rfl;refine⟨rfl,?_⟩;refine s_ (h:=a_ (h:=e_ (A4 (?_))));refine A8 ?_
 rw[NN hc1 (by omega) ha had hT (fun h=>by
  obtain⟨h1,h2,h3⟩:=h;rw[hσx]at h2;have hm2:w.missing=false:=by simpa using h2
  rw[hσf hm2]at h3;rw[h1,h2,h3]at hc11
  cases hc11),←hσe]
 rfl
end
section
theorem Q1{s:Spc}(hs:SpcB s)(hv:SpcV s)(a:AA):AFn prog 193 [.agg (Aj s), .agg (AD a)] (fun r=>r= .agg (AD (CV s s.mounts.length a))):=
 (WO s a hs).mono fun r hr=>by rw[hr,Yx hv]
end
def LZ(σ:Lk):List AV:=Dh ⟨σ.dir,σ.name,σ.file,σ.ex,false,⟨#[]⟩⟩
theorem Fn{s:Spc}(hv:FlsV s.files){F:Bool}{q:AG}{qs:List AG}{da:AA}{na:AG}{a:AA}{ea:Bool}{lk:Nat}(h8:lk≤8):(∀e,Bp s F q qs a lk= .inl e→DF s F ⟨q::qs,da,na,a,ea,lk⟩=(e,LU))∧∀τ,Bp s F q qs a lk= .inr τ→τ.links≤8∧DF s F ⟨q::qs,da,na,a,ea,lk⟩=DF s F τ∧Di τ<(8 - lk) * 200+(qs.length+1):=by
 have hc:=Te hv (fl:=F) (σ:=⟨q::qs,da,na,a,ea,lk⟩) (p:=q) (ps:=qs) h8 rfl;refine⟨fun e he=>?_,fun τ hτ=>?_⟩
 ·rw[hc];simp only[he]
 obtain⟨h1,h2⟩:=Po hv h8 hτ;refine⟨h1,?_,h2⟩;rw[hc];simp only[hτ]
section
theorem U7(s:Spc)(hs:SpcB s)(hv:SpcV s):AFn prog 192 [.agg (Aj s)] (fun r=>r= .agg (AD (Cq s))):=by
 refine enter Tryz.func192 rfl rfl rfl rfl rfl 0 rfl ?_;refine w_ (b_ (h:=Ac (h:=e_ (w_ (l_ (h:=Ab (h:=?_)))))));refine A6 rfl (AJ (Q1 hs hv (0,1)) ?_);rintro r rfl;refine s_ (h:=e_ (A4 (?_)));refine A8 ?_;rfl
theorem bQ(s:Spc)(start:AA)(p:AG)(fl:Bool)(hs:SpcN s)(hv:SpcV s)(hp:p.size≤100000):AFn prog 141 [.agg (Aj s), .agg (AD start), .v (.string p), .v (.bool fl)] (fun r=>r= .tup [.agg (Dh (Bt s start p fl).1), .v (.int .i64 (Bt s start p fl).2)]):=by
 have hw:=Pe hv;have hsp:=K5 p;refine enter Tryz.func141 rfl rfl rfl rfl rfl 0 rfl ?_;refine w_ (b_ (h:=b_ (h:=Ac (h:=a_ (h:=e_ (w_ (m_ (h:=?_))))))));refine A6 rfl (AJ (Ph p hp) ?_);rintro r ⟨ps,hps,rfl⟩;obtain rfl:=Pn hps;clear hps;refine m_ (h:=x_ (h:=x_ (h:=x_ (h:=a_ (h:=a_ (h:=a_ (h:=e_ (q_ (w_ (m_ (h:=AN (h:=e_ (?_)))))))))))));refine A9 rfl (fun hb1=>?_) (fun hb1=>?_)
 ·have hc1:=bp hb1;refine w_ (Ab (h:=s_ (h:=a_ (h:=e_ (A4 (A7 (?_)))))));refine A8 ?_;rw[show Bt s start p fl=(DE,2) from if_pos hc1];rfl
 have hc1:=bp hb1;refine AE (q_ (w_ (m_ (h:=n_ (h:=Bb (h:=e_ (?_)))))));refine A9 rfl (fun hb2=>?_) (fun hb2=>?_)
 ·have hc2:=bp hb2;refine w_ (Ab (h:=s_ (h:=a_ (h:=e_ (A4 (A7 (?_)))))));refine A8 ?_;rw[U3 hc1 (by omega)];rfl
 have hc2:=bp hb2;refine AE (w_ (l_ (h:=Ac (h:=s_ (h:=e_ (?_))))));refine CA (fun t=>∃a,(if Ca p=true then Cq s else start)=a∧t=⟨look [(3, .v (.bool fl)),(4, .bp 0 0),(8, .bp 2 0),(10, .sl 1 ((CP p).map Ce) none),(12, .v (.bool (B7 p))),(13, .bp 3 0)],⟨[Aj s,AD start,Dh DE,AD a],[]⟩⟩) ?_ ?_
 ·skip
  refine w_ (m_ (h:=e_ (?_)));refine A9 rfl (fun hb3=>?_) (fun hb3=>?_)
  ·have hc3:=bp hb3;refine AW (l_ (h:=?_));refine A6 rfl (AJ (U7 s hs.b hv) ?_);rintro r rfl;refine s_ (h:=AQ (?_));refine AK ?_
   first|exact⟨_,⟨Cq s,if_pos hc3,rfl⟩,(wk 4 0)⟩|exact⟨_,⟨start,if_neg (by simp[hc3]),rfl⟩,(wk 4 0)⟩
  have hc3:=bp hb3;refine Aw (?_);refine AK ?_
  first|exact⟨_,⟨Cq s,if_pos hc3,rfl⟩,(wk 4 0)⟩|exact⟨_,⟨start,if_neg (by simp[hc3]),rfl⟩,(wk 4 0)⟩
 rintro t ⟨a0,ha,rfl⟩;refine q_ (w_ (f_ (h:=l_ (h:=l_ (h:=?_)))));refine A6 rfl (AJ (GS s.files a0 hs.b.files) ?_);rintro r rfl;refine BB (h:=e_ (?_));refine A9 rfl (fun hb4=>?_) (fun hb4=>?_)
 ·have hc4:=bp hb4;refine w_ (Ab (h:=s_ (h:=a_ (h:=e_ (A4 (A7 (?_)))))));refine A8 ?_;rw[U4 hc1 (by omega) ha (by simpa using hc4)];rfl
 have hc4:=bp hb4;have had:Am s.files a0=true:=by simpa using hc4
 refine AE (w_ (l_ (h:=l_ (h:=Ab (h:=Ac (h:=s_ (h:=e_ (w_ (a_ (h:=e_ (?_)))))))))));refine CA (fun t=>∃(τ:Lk) (d:AA),DF s (fl||B7 p) (Ej (CP p) a0)=(0,τ)∧τ.name.size≤1000∧t=⟨look [(4, .bp 0 0),(8, .bp 2 0),(12, .v (.bool (B7 p))),(14, .bp 4 0)],⟨[Aj s,AD start,Dh DE,AD d,LZ τ],[]⟩⟩) ?_ ?_
 ·skip
  refine Af (?_);refine BW (fun m t=>∃(σ:Lk) (d:AA),σ.links≤8∧σ.name.size≤12∧DF s (fl||B7 p) σ=DF s (fl||B7 p) (Ej (CP p) a0)∧m=Di σ∧m≤1729∧t=⟨look [(3, .v (.bool fl)),(4, .bp 0 0),(8, .bp 2 0),(10, .sl 1 (σ.ps.map Ce) none),(12, .v (.bool (B7 p))),(13, .bp 3 0),(14, .bp 4 0),(15, .v (.int .i64 (σ.links:Int)))],⟨[Aj s,AD start,Dh DE,AD d,LZ σ],[]⟩⟩) (Di (Ej (CP p) a0)) ((wk 5 0)) (⟨_,a0,BU _,BU _,rfl,rfl,by show(8 - 0) * 200+(CP p).length≤1729;omega,rfl⟩) ?_;rintro m t ⟨⟨ps0,da,na,a,ea,lk⟩,d,h8,hna,hT,rfl,hm,rfl⟩;have hm:(8 - lk) * 200+ps0.length≤1729:=hm;have h8:lk≤8:=h8;have hml:(ps0.map Ce).length=ps0.length:=by simp
  refine q_ (w_ (m_ (h:=n_ (h:=Bb (h:=e_ (?_))))));refine A9 rfl (fun hb5=>?_) (fun hb5=>?_)
  ·have hc5:=bp hb5
   obtain⟨q,qs,hps⟩:∃q qs,ps0=q::qs:=by
    cases ps0 with
    |nil=>simp at hc5
    |cons q qs=>exact⟨q,qs,rfl⟩
   subst hps;have hml:(qs.map Ce).length=qs.length:=by simp
   have hmq:(8 - lk) * 200+(qs.length+1)≤1729:=hm;have htg:=LL hv.files (AO s.files a q).1;have htp:=K5 (As s.files (AO s.files a q).1).target;refine AE (Af (w_ (m_ (h:=?_))));refine A6 rfl (DV (n:=0) rfl rfl rfl rfl ?_);refine l_ (h:=a_ (h:=e_ (?_)));refine EO (⟨look [(3, .v (.bool fl)),(4, .bp 0 0),(8, .bp 2 0),(10, .sl 1 (qs.map Ce) none),(12, .v (.bool (B7 p))),(13, .bp 3 0),(14, .bp 4 0),(15, .v (.int .i64 (lk:Int))),(16, .v (.string q))],⟨[Aj s,AD start,Dh DE,AD d,LZ ⟨q::qs,da,na,a,ea,lk⟩],[]⟩⟩) ?_ ?_
   ·skip
    refine AW (m_ (h:=?_));refine A6 rfl (Qe (l:=1) rfl rfl rfl (by simp) ?_);refine a_ (h:=AQ (?_));refine AK ?_
    first|(exfalso;first|contradiction|omega)|exact Az 5 0 rfl rfl rfl rfl (by repeat (first|exact Sub.nil|refine B0 rfl rfl ?_|refine B3 ?_|refine B4 rfl ?_|refine B5 rfl ?_|(apply Sub.of;(focus exact rfl);(focus exact LeA.of_eq (vb (by rfl)));(focus exact rfl))))
   skip
   refine w_ (f_ (h:=l_ (h:=s_ (h:=e_ (q_ (w_ (f_ (h:=l_ (h:=l_ (h:=?_))))))))));refine A6 rfl (AJ (GS s.files a hs.b.files) ?_);rintro r rfl;refine BB (h:=e_ (?_));refine A9 rfl (fun hb6=>?_) (fun hb6=>?_)
   ·have hc6:=bp hb6;have hst:Bp s (fl||B7 p) q qs a lk= .inl 20:=by unfold Bp;rw[if_pos hc6]
    refine w_ (Ab (h:=s_ (h:=a_ (h:=e_ (A4 (A7 (AP (A7 (AP (A7 (?_)))))))))));refine A8 ?_;rw[K7 hc1 (by omega) ha had (hT.symm.trans ((Fn (F:=fl||B7 p) (da:=da) (na:=na) (ea:=ea) hv.files h8).1 _ hst)) (by decide)];rfl
   have hc6:=bp hb6;refine AE (q_ (w_ (m_ (h:=n_ (h:=Bb (h:=e_ (?_)))))));refine A9 rfl (fun hb7=>?_) (fun hb7=>?_)
   ·have hc7:=bp hb7;have hst:Bp s (fl||B7 p) q qs a lk= .inl 36:=by unfold Bp;rw[if_neg (by simp[hc6]),if_pos (by omega)]
    refine w_ (Ab (h:=s_ (h:=a_ (h:=e_ (A4 (A7 (AP (A7 (AP (A7 (?_)))))))))));refine A8 ?_;rw[K7 hc1 (by omega) ha had (hT.symm.trans ((Fn (F:=fl||B7 p) (da:=da) (na:=na) (ea:=ea) hv.files h8).1 _ hst)) (by decide)];rfl
   have hc7:=bp hb7;have hq12:q.size≤12:=by omega
   refine AE (q_ (w_ (m_ (h:=AN (h:=m_ (h:=?_))))));refine AR false rfl rfl (fun hb8=>?_) (fun hb8=>?_)
   ·have hc8:=bp hb8;refine A3 (h:=A3 (h:=AB (h:=e_ (B2 (h:=q_ (w_ (m_ (h:=AN (h:=e_ (?_))))))))));refine A9 rfl (fun hb9=>?_) (fun hb9=>?_)
    ·have hc9:=bp hb9;rw[hc8]at hc9;exact absurd hc9 (by decide)
    have hc9:=bp hb9;have hst:Bp s (fl||B7 p) q qs a lk= .inr ⟨qs,a,⟨#[]⟩,a,true,lk⟩:=by unfold Bp;rw[if_neg (by simp[hc6]),if_neg (by omega),if_pos hc8]
    refine AE (w_ (l_ (h:=l_ (h:=Ab (h:=s_ (h:=e_ (BL (Ai (BM (?_))))))))));refine AK ?_;obtain⟨g1,g2,g3⟩:=(Fn (F:=fl||B7 p) (da:=da) (na:=na) (ea:=ea) hv.files h8).2 _ hst;exact⟨_,_,g3,⟨_,_,g1,(by first|exact BU _|exact hq12),g2.symm.trans hT,rfl,Nat.le_trans (Nat.le_of_lt g3) hmq,rfl⟩,(by(try simp only[List.map_append]);exact Az 5 0 rfl rfl rfl rfl ((by repeat (first|exact Sub.nil|refine B0 rfl rfl ?_|refine B3 ?_|refine B4 rfl ?_|refine B5 rfl ?_))))⟩
   have hc8:=bp hb8;refine m_ (h:=AN (h:=AF (h:=e_ (?_))));refine A9 rfl (fun hb10=>?_) (fun hb10=>?_)
   ·have hc10:=bp hb10;refine q_ (w_ (m_ (h:=AN (h:=e_ (?_)))));refine A9 rfl (fun hb11=>?_) (fun hb11=>?_)
    ·have hc11:=bp hb11;have hst:Bp s (fl||B7 p) q qs a lk= .inr ⟨qs,CV s s.mounts.length (D3 s (s.mounts.length+1) a),⟨#[]⟩,CV s s.mounts.length (D3 s (s.mounts.length+1) a),true,lk⟩:=by unfold Bp;rw[if_neg (by simp[hc6]),if_neg (by omega),if_neg hc8,if_pos hc11]
     refine CE ([(0,Aj s),(3,AD a)]) 5 (h:=AY 0 (h:=AY 1 (h:=AY 2 (h:=?_))));refine c_ 3 rfl (AJ (ZC hs.b hv (s.mounts.length+1) a (by have:=Yv (s:=s) a.1;omega)) ?_);rintro r rfl;refine o_ (h:=?_);refine c_ 4 rfl (AJ (Q1 hs.b hv (D3 s (s.mounts.length+1) a)) ?_);rintro r rfl;refine o_ (h:=?_);refine Bm 5 rfl (Bd rfl rfl rfl rfl rfl rfl (by repeat constructor) (by repeat constructor) ?_);refine o_ (h:=z_ (h:=t_ (w_ (l_ (h:=l_ (h:=Ab (h:=s_ (h:=e_ (BL (Ai (BM (?_))))))))))));refine AK ?_;obtain⟨g1,g2,g3⟩:=(Fn (F:=fl||B7 p) (da:=da) (na:=na) (ea:=ea) hv.files h8).2 _ hst;exact⟨_,_,g3,⟨_,_,g1,(by first|exact BU _|exact hq12),g2.symm.trans hT,rfl,Nat.le_trans (Nat.le_of_lt g3) hmq,rfl⟩,(by(try simp only[List.map_append]);exact Az 5 0 rfl rfl rfl rfl ((by repeat (first|exact Sub.nil|refine B0 rfl rfl ?_|refine B3 ?_|refine B4 rfl ?_|refine B5 rfl ?_))))⟩
    have hc11:=bp hb11;exact absurd hc10 hc11
   have hc10:=bp hb10;refine AE (w_ (f_ (h:=l_ (h:=l_ (h:=m_ (h:=?_))))));refine A6 rfl (AJ (H3 s.files a q hs.b.files) ?_);rintro r rfl;refine m_ (h:=x_ (h:=x_ (h:=Ac (h:=s_ (h:=a_ (h:=e_ (q_ (w_ (m_ (h:=Ao (h:=e_ (?_))))))))))));refine A9 rfl (fun hb12=>?_) (fun hb12=>?_)
   ·have hc12:=bp hb12;refine q_ (w_ (m_ (h:=n_ (h:=Bb (h:=m_ (h:=?_))))));refine AR false rfl rfl (fun hb13=>?_) (fun hb13=>?_)
    ·have hc13:=bp hb13;have hne:qs≠[]:=fun e=>by rw[e]at hc13;simp at hc13
     have hst:Bp s (fl||B7 p) q qs a lk= .inl 2:=by unfold Bp;rw[if_neg (by simp[hc6]),if_neg (by omega),if_neg hc8,if_neg hc10,if_pos hc12,if_pos (.inl hne)]
     refine A3 (h:=A3 (h:=A3 (h:=AB (h:=e_ (B2 (h:=w_ (Ab (h:=s_ (h:=a_ (h:=e_ (A4 (A7 (A7 (AP (A7 (AP (A7 (?_))))))))))))))))));refine A8 ?_;rw[K7 hc1 (by omega) ha had (hT.symm.trans ((Fn (F:=fl||B7 p) (da:=da) (na:=na) (ea:=ea) hv.files h8).1 _ hst)) (by decide)];rfl
    have hc13:=bp hb13;have hne:¬qs≠[]:=fun e=>e (Cj (by omega));refine m_ (h:=?_);refine Av (AJ (OQ q (by omega)) ?_);rintro r rfl;refine BB (h:=AF (h:=e_ (?_)));refine A9 rfl (fun hb14=>?_) (fun hb14=>?_)
    ·have hc14:=bp hb14;have hst:Bp s (fl||B7 p) q qs a lk= .inl 2:=by unfold Bp;rw[if_neg (by simp[hc6]),if_neg (by omega),if_neg hc8,if_neg hc10,if_pos hc12,if_pos (.inr hc14)]
     refine w_ (Ab (h:=s_ (h:=a_ (h:=e_ (A4 (A7 (A7 (AP (A7 (AP (A7 (?_))))))))))));refine A8 ?_;rw[K7 hc1 (by omega) ha had (hT.symm.trans ((Fn (F:=fl||B7 p) (da:=da) (na:=na) (ea:=ea) hv.files h8).1 _ hst)) (by decide)];rfl
    have hc14:=bp hb14;have hst:Bp s (fl||B7 p) q qs a lk= .inr ⟨[],a,q,(0,0),false,lk⟩:=by unfold Bp;rw[if_neg (by simp[hc6]),if_neg (by omega),if_neg hc8,if_neg hc10,if_pos hc12,if_neg (fun e=>e.elim hne (by simp[hc14]))]
    have hfin:=hT.symm.trans (((Fn (F:=fl||B7 p) (da:=da) (na:=na) (ea:=ea) hv.files h8).2 _ hst).2.1.trans (Pp rfl));refine AE (w_ (l_ (h:=m_ (h:=Ab (h:=s_ (h:=e_ (BL (Ai (KK rfl (Ai (BM (?_))))))))))));refine AK ?_;exact⟨_,⟨_,_,hfin,(by first|exact Nat.le_trans hna (by decide)|exact Nat.le_trans hq12 (by decide)),rfl⟩,(wk 5 0)⟩
   have hc12:=bp hb12;refine AE (w_ (f_ (h:=l_ (h:=l_ (h:=?_)))));refine A6 rfl (AJ (Ed s.files (AO s.files a q).1 hs.b.files) ?_);rintro r rfl;refine m_ (h:=x_ (h:=x_ (h:=Ac (h:=s_ (h:=a_ (h:=e_ (q_ (?_))))))));refine EO (⟨look [(3, .v (.bool fl)),(4, .bp 0 0),(8, .bp 2 0),(10, .sl 1 (qs.map Ce) none),(12, .v (.bool (B7 p))),(13, .bp 3 0),(14, .bp 4 0),(15, .v (.int .i64 (lk:Int))),(16, .v (.string q)),(17, .bp 5 0),(19, .bp 6 0),(130, .v (.bool (decide ((As s.files (AO s.files a q).1).kind=3)&&(decide (0<((qs.map Ce).length:Int))||(fl||B7 p)))))],⟨[Aj s,AD start,Dh DE,AD a,LZ ⟨q::qs,da,na,a,ea,lk⟩,AD (AO s.files a q).1,Ak (As s.files (AO s.files a q).1)],[]⟩⟩) ?_ ?_
   ·skip
    refine AW (f_ (h:=l_ (h:=AN (h:=m_ (h:=?_)))));refine AR true rfl rfl (fun hb15=>?_) (fun hb15=>?_)
    ·have hc15:=bp hb15;refine m_ (h:=n_ (h:=Bb (h:=m_ (h:=?_))));refine AR false rfl rfl (fun hb16=>?_) (fun hb16=>?_)
     ·have hc16:=bp hb16;refine A3 (h:=AB (h:=m_ (h:=A3 (h:=AB (h:=AB (h:=AQ (?_)))))));refine AK ?_
      first|(exfalso;first|contradiction|omega)|exact Az 7 0 rfl rfl rfl rfl (by repeat (first|exact Sub.nil|refine B0 rfl rfl ?_|refine B3 ?_|refine B4 rfl ?_|refine B5 rfl ?_|(apply Sub.of;(focus exact rfl);(focus exact LeA.of_eq (vb (by first|(rw[hb15];rfl)|(rw[hb15,hb16];rfl)|(rw[hb15,hb16,hb17];rfl))));(focus exact rfl))))
     have hc16:=bp hb16;refine m_ (h:=AF (h:=m_ (h:=?_)));refine AR false rfl rfl (fun hb17=>?_) (fun hb17=>?_)
     ·have hc17:=bp hb17;refine A3 (h:=AB (h:=AB (h:=AQ (?_))));refine AK ?_
      first|(exfalso;first|contradiction|omega)|exact Az 7 0 rfl rfl rfl rfl (by repeat (first|exact Sub.nil|refine B0 rfl rfl ?_|refine B3 ?_|refine B4 rfl ?_|refine B5 rfl ?_|(apply Sub.of;(focus exact rfl);(focus exact LeA.of_eq (vb (by first|(rw[hb15];rfl)|(rw[hb15,hb16];rfl)|(rw[hb15,hb16,hb17];rfl))));(focus exact rfl))))
     have hc17:=bp hb17;refine m_ (h:=AF (h:=AB (h:=AQ (?_))));refine AK ?_
     first|(exfalso;first|contradiction|omega)|exact Az 7 0 rfl rfl rfl rfl (by repeat (first|exact Sub.nil|refine B0 rfl rfl ?_|refine B3 ?_|refine B4 rfl ?_|refine B5 rfl ?_|(apply Sub.of;(focus exact rfl);(focus exact LeA.of_eq (vb (by first|(rw[hb15];rfl)|(rw[hb15,hb16];rfl)|(rw[hb15,hb16,hb17];rfl))));(focus exact rfl))))
    have hc15:=bp hb15;refine A3 (h:=A3 (h:=A3 (h:=A3 (h:=AU (h:=A3 (h:=A3 (h:=AU (h:=A3 (h:=AF (h:=AQ (?_)))))))))));refine AK ?_
    first|(exfalso;first|contradiction|omega)|exact Az 7 0 rfl rfl rfl rfl (by repeat (first|exact Sub.nil|refine B0 rfl rfl ?_|refine B3 ?_|refine B4 rfl ?_|refine B5 rfl ?_|(apply Sub.of;(focus exact rfl);(focus exact LeA.of_eq (vb (by first|(rw[hb15];rfl)|(rw[hb15,hb16];rfl)|(rw[hb15,hb16,hb17];rfl))));(focus exact rfl))))
   skip
   refine A9 rfl (fun hb18=>?_) (fun hb18=>?_)
   ·have hc18:=bp hb18
    have hlk:(As s.files (AO s.files a q).1).kind=3∧(qs≠[]∨(fl||B7 p)=true):=by
     rw[Bool.and_eq_true,decide_eq_true_eq,Bool.or_eq_true,decide_eq_true_eq]at hc18;exact⟨hc18.1,hc18.2.imp (fun h e=>by rw[e]at h;simp at h) id⟩
    refine q_ (w_ (m_ (h:=AN (h:=e_ (?_)))));refine A9 rfl (fun hb19=>?_) (fun hb19=>?_)
    ·have hc19:=bp hb19;have hst:Bp s (fl||B7 p) q qs a lk= .inl 40:=by unfold Bp;rw[if_neg (by simp[hc6]),if_neg (by omega),if_neg hc8,if_neg hc10,if_neg (by simp[hc12]),if_pos hlk,if_pos (by omega)]
     refine w_ (Ab (h:=s_ (h:=a_ (h:=e_ (A4 (A7 (A7 (AP (A7 (AP (A7 (?_))))))))))));refine A8 ?_;rw[K7 hc1 (by omega) ha had (hT.symm.trans ((Fn (F:=fl||B7 p) (da:=da) (na:=na) (ea:=ea) hv.files h8).1 _ hst)) (by decide)];rfl
    have hc19:=bp hb19;refine AE (w_ (m_ (h:=?_)));refine A6 rfl (Hn rfl rfl (by omega) ?_);refine a_ (h:=e_ (w_ (f_ (h:=l_ (h:=?_)))));refine A6 rfl (AJ (Ph (As s.files (AO s.files a q).1).target (by omega)) ?_);rintro r ⟨ps,hps,rfl⟩;obtain rfl:=Pn hps;clear hps;refine m_ (h:=x_ (h:=x_ (h:=x_ (h:=a_ (h:=a_ (h:=a_ (h:=e_ (q_ (w_ (m_ (h:=e_ (?_))))))))))));refine A9 rfl (fun hb20=>?_) (fun hb20=>?_)
    ·have hc20:=bp hb20;have hst:Bp s (fl||B7 p) q qs a lk= .inr ⟨CP (As s.files (AO s.files a q).1).target++qs,Cq s,⟨#[]⟩,Cq s,true,lk+1⟩:=by unfold Bp;rw[if_neg (by simp[hc6]),if_neg (by omega),if_neg hc8,if_neg hc10,if_neg (by simp[hc12]),if_pos hlk,if_neg (by omega),if_pos hc20]
     refine AW (l_ (h:=?_));refine A6 rfl (AJ (U7 s hs.b hv) ?_);rintro r rfl;refine s_ (h:=e_ (w_ (m_ (h:=ES (h:=m_ (h:=ES (h:=a_ (h:=e_ (w_ (l_ (h:=l_ (h:=Ab (h:=s_ (h:=e_ (BL (Ai (BM (?_))))))))))))))))));refine AK ?_;obtain⟨g1,g2,g3⟩:=(Fn (F:=fl||B7 p) (da:=da) (na:=na) (ea:=ea) hv.files h8).2 _ hst;exact⟨_,_,g3,⟨_,_,g1,(by first|exact BU _|exact hq12),g2.symm.trans hT,rfl,Nat.le_trans (Nat.le_of_lt g3) hmq,rfl⟩,(by(try simp only[List.map_append]);exact Az 5 0 rfl rfl rfl rfl ((by repeat (first|exact Sub.nil|refine B0 rfl rfl ?_|refine B3 ?_|refine B4 rfl ?_|refine B5 rfl ?_))))⟩
    have hc20:=bp hb20;have hst:Bp s (fl||B7 p) q qs a lk= .inr ⟨CP (As s.files (AO s.files a q).1).target++qs,a,⟨#[]⟩,a,true,lk+1⟩:=by unfold Bp;rw[if_neg (by simp[hc6]),if_neg (by omega),if_neg hc8,if_neg hc10,if_neg (by simp[hc12]),if_pos hlk,if_neg (by omega),if_neg (by simp[hc20])]
    refine AE (w_ (m_ (h:=ES (h:=m_ (h:=ES (h:=a_ (h:=e_ (w_ (l_ (h:=l_ (h:=Ab (h:=s_ (h:=e_ (BL (Ai (BM (?_)))))))))))))))));refine AK ?_;obtain⟨g1,g2,g3⟩:=(Fn (F:=fl||B7 p) (da:=da) (na:=na) (ea:=ea) hv.files h8).2 _ hst;exact⟨_,_,g3,⟨_,_,g1,(by first|exact BU _|exact hq12),g2.symm.trans hT,rfl,Nat.le_trans (Nat.le_of_lt g3) hmq,rfl⟩,(by(try simp only[List.map_append]);exact Az 5 0 rfl rfl rfl rfl ((by repeat (first|exact Sub.nil|refine B0 rfl rfl ?_|refine B3 ?_|refine B4 rfl ?_|refine B5 rfl ?_))))⟩
   have hc18:=bp hb18
   have hlk:¬((As s.files (AO s.files a q).1).kind=3∧(qs≠[]∨(fl||B7 p)=true)):=fun h=>by
    rw[decide_eq_true h.1,Bool.true_and,Bool.or_eq_false_iff]at hc18;rcases h.2 with e|e
    ·exact e (Cj (by have:=of_decide_eq_false hc18.1;omega))
    rw[hc18.2]at e;cases e
   have hst:Bp s (fl||B7 p) q qs a lk= .inr ⟨qs,a,q,CV s s.mounts.length (AO s.files a q).1,true,lk⟩:=by unfold Bp;rw[if_neg (by simp[hc6]),if_neg (by omega),if_neg hc8,if_neg hc10,if_neg (by simp[hc12]),if_neg hlk]
   refine AE (CE ([(0,Aj s),(3,AD a),(5,AD (AO s.files a q).1)]) 6 (h:=AY 0 (h:=Ap 1 (h:=AY 2 (h:=AY 3 (h:=?_))))));refine c_ 4 rfl (AJ (Q1 hs.b hv (AO s.files a q).1) ?_);rintro r rfl;refine o_ (h:=GO 5 (h:=?_));refine Bm 6 rfl (Bd rfl rfl rfl rfl rfl rfl (by repeat constructor) (by repeat constructor) ?_);refine o_ (h:=z_ (h:=Al (?_)));refine AK ?_;obtain⟨g1,g2,g3⟩:=(Fn (F:=fl||B7 p) (da:=da) (na:=na) (ea:=ea) hv.files h8).2 _ hst;exact⟨_,_,g3,⟨_,_,g1,(by first|exact BU _|exact hq12),g2.symm.trans hT,rfl,Nat.le_trans (Nat.le_of_lt g3) hmq,rfl⟩,(by(try simp only[List.map_append]);exact Az 5 0 rfl rfl rfl rfl ((by repeat (first|exact Sub.nil|refine B0 rfl rfl ?_|refine B3 ?_|refine B4 rfl ?_|refine B5 rfl ?_))))⟩
  have hc5:=bp hb5;have hc5:¬(0:Int)<((ps0.map Ce).length:Int):=hc5;have e5:ps0=[]:=Cj (by omega);subst e5;have hfin:=hT.symm.trans (Pp (s:=s) (fl:=fl||B7 p) (σ:=⟨[],da,na,a,ea,lk⟩) rfl);refine BL (Ai (Ai (BM (?_))));refine AK ?_;exact⟨_,⟨_,_,hfin,(by first|exact Nat.le_trans hna (by decide)|exact Nat.le_trans hq12 (by decide)),rfl⟩,(wk 5 0)⟩
 rintro t ⟨τ,d,hT,hnm,rfl⟩;refine q_ (?_);refine EO (⟨look [(4, .bp 0 0),(8, .bp 2 0),(12, .v (.bool (B7 p))),(14, .bp 4 0),(171, .v (.bool (B7 p&&(τ.ex&& !Am s.files τ.file))))],⟨[Aj s,AD start,Dh DE,AD d,LZ τ],[]⟩⟩) ?_ ?_
 ·skip
  refine AW (m_ (h:=m_ (h:=?_)));refine AR true rfl rfl (fun hb21=>?_) (fun hb21=>?_)
  ·have hc21:=bp hb21;refine f_ (h:=l_ (h:=AB (h:=m_ (h:=?_))));refine AR true rfl rfl (fun hb22=>?_) (fun hb22=>?_)
   ·have hc22:=bp hb22;have hx:τ.ex=true:=hb22;refine f_ (h:=l_ (h:=f_ (h:=l_ (h:=?_))));refine Av (AJ (GS s.files τ.file hs.b.files) ?_);rintro r rfl;refine BB (h:=AB (h:=AQ (?_)));refine AK ?_
    first|(exfalso;first|contradiction|omega)|exact Az 5 0 rfl rfl rfl rfl (by repeat (first|exact Sub.nil|refine B0 rfl rfl ?_|refine B3 ?_|refine B4 rfl ?_|refine B5 rfl ?_|(apply Sub.of;(focus exact rfl);(focus exact LeA.of_eq (vb (by first|(rw[hb21];rfl)|(rw[hb21,hx];rfl))));(focus exact rfl))))
   have hc22:=bp hb22;have hx:τ.ex=false:=hb22;refine A3 (h:=A3 (h:=A3 (h:=A3 (h:=A3 (h:=A3 (h:=AF (h:=AQ (?_))))))));refine AK ?_
   first|(exfalso;first|contradiction|omega)|exact Az 5 0 rfl rfl rfl rfl (by repeat (first|exact Sub.nil|refine B0 rfl rfl ?_|refine B3 ?_|refine B4 rfl ?_|refine B5 rfl ?_|(apply Sub.of;(focus exact rfl);(focus exact LeA.of_eq (vb (by first|(rw[hb21];rfl)|(rw[hb21,hx];rfl))));(focus exact rfl))))
  have hc21:=bp hb21;refine A3 (h:=A3 (h:=AF (h:=m_ (h:=A3 (h:=A3 (h:=A3 (h:=A3 (h:=A3 (h:=A3 (h:=AF (h:=AQ (?_))))))))))));refine AK ?_
  first|(exfalso;first|contradiction|omega)|exact Az 5 0 rfl rfl rfl rfl (by repeat (first|exact Sub.nil|refine B0 rfl rfl ?_|refine B3 ?_|refine B4 rfl ?_|refine B5 rfl ?_|(apply Sub.of;(focus exact rfl);(focus exact LeA.of_eq (vb (by first|(rw[hb21];rfl)|(rw[hb21,hx];rfl))));(focus exact rfl))))
 skip
 refine A9 rfl (fun hb23=>?_) (fun hb23=>?_)
 ·have hc23:=bp hb23;refine w_ (Ab (h:=s_ (h:=a_ (h:=e_ (A4 (A7 (?_)))))));refine A8 ?_;rw[U5 hc1 (by omega) ha had hT (by simp only[Bool.and_eq_true,Bool.not_eq_true']at hc23;exact hc23)];rfl
 have hc23:=bp hb23;refine AE (w_ (m_ (h:=f_ (h:=s_ (h:=e_ (q_ (w_ (l_ (h:=f_ (h:=l_ (h:=?_)))))))))));refine A6 rfl (AJ (ZA hs.b hv τ.dir) ?_);rintro r rfl;refine m_ (h:=x_ (h:=x_ (h:=a_ (h:=a_ (h:=e_ (w_ (m_ (h:=e_ (?_)))))))));refine A9 rfl (fun hb24=>?_) (fun hb24=>?_)
 ·have hc24:=bp hb24;refine w_ (m_ (h:=f_ (h:=s_ (h:=e_ (w_ (f_ (h:=l_ (h:=Ao (h:=e_ (?_))))))))));refine A9 rfl (fun hb25=>?_) (fun hb25=>?_)
  ·have hc25:=bp hb25;refine AW (m_ (h:=f_ (h:=l_ (h:=?_))));refine A6 rfl (AJ (TS (BZ s τ.dir).1 τ.name (by have:=hw τ.dir;omega) (by omega)) ?_);rintro r rfl;refine f_ (h:=s_ (h:=e_ (w_ (l_ (h:=s_ (h:=a_ (h:=e_ (A4 (?_)))))))));refine A8 ?_;rw[NN hc1 (by omega) ha had hT (fun h=>by rw[h.1,h.2.1,h.2.2]at hc23;cases hc23),show F8 s (B7 p) τ=⟨τ.dir,τ.name,τ.file,τ.ex,B7 p,Cl (BZ s τ.dir).1 τ.name⟩ by unfold F8;rw[if_pos hc24,if_neg hc25]];rfl
  have hc25:=bp hb25;refine AE (w_ (l_ (h:=s_ (h:=a_ (h:=e_ (A4 (?_)))))));refine A8 ?_;rw[NN hc1 (by omega) ha had hT (fun h=>by rw[h.1,h.2.1,h.2.2]at hc23;cases hc23),show F8 s (B7 p) τ=⟨τ.dir,τ.name,τ.file,τ.ex,B7 p,(BZ s τ.dir).1⟩ by unfold F8;rw[if_pos hc24,if_pos hc25]];rfl
 have hc24:=bp hb24;refine AE (w_ (l_ (h:=s_ (h:=a_ (h:=e_ (A4 (?_)))))));refine A8 ?_;rw[NN hc1 (by omega) ha had hT (fun h=>by rw[h.1,h.2.1,h.2.2]at hc23;cases hc23),show F8 s (B7 p) τ=⟨τ.dir,τ.name,τ.file,τ.ex,B7 p,⟨#[]⟩⟩ by unfold F8;rw[if_neg (by simp[hc24])]];rfl
end
def NP(R:Syst×Int):AV:= .tup [.agg (Tf R.1), .v (.int .i64 R.2)]
section
theorem bR(a:AA):AFn prog 111 [.agg (AD a)] (fun r=>r= .agg (ZH (Pq a))):=by
 refine enter Tryz.func111 rfl rfl rfl rfl rfl 0 rfl ?_;refine w_ (b_ (h:=Ac (h:=e_ (w_ (l_ (h:=?_))))));refine A6 rfl (Gw (y:= .agg (Pr ⟨1,0,0,0,0,0,4294967295,4294967295,a,⟨#[105,110,105,116]⟩,⟨#[47,105,110,105,116]⟩,[],true⟩)) (E0 ⟨rfl,rfl⟩) ?_);refine Bo (h:=Ab (h:=s_ (h:=e_ (A4 (?_)))));refine A8 ?_;rfl
theorem bS(n:Int):AFn prog 60 [.v (.int .i64 n)] (fun r=>r=NP (Fm n)):=by
 refine enter Tryz.func60 rfl rfl rfl rfl rfl 0 rfl ?_;refine w_ (Ac (h:=a_ (h:=e_ (w_ (m_ (h:=?_))))));refine A6 rfl (AJ (Rs n) ?_);rintro r rfl;refine m_ (h:=x_ (h:=x_ (h:=Ac (h:=s_ (h:=a_ (h:=e_ (q_ (w_ (m_ (h:=Ao (h:=e_ (?_))))))))))));refine A9 rfl (fun hb1=>?_) (fun hb1=>?_)
 ·have hc1:=bp hb1;refine w_ (Ab (h:=m_ (h:=s_ (h:=a_ (h:=e_ (A4 (A7 (?_))))))));refine Au (r:=NP (Fm n)) none (h5:=?_) (h6:=⟨rfl,rfl,rfl⟩);rw[Fm,if_pos (by simpa using hc1)];exact(by repeat (first|exact AX _|exact LeA.nil _|exact LeL.refl _|refine LeA.agg ?_|refine LeA.tup ?_|exact LeL.nil|refine LeL.cons ?_ ?_|exact LeA.any _))
 have hc1:=bp hb1;refine AE (q_ (CE ([(1,Aq (Dq n).1)]) 7 (h:=AY 0 (h:=GO 1 (h:=GO 2 (h:=?_))))));refine c_ 3 rfl (AJ (bR (0,1)) ?_);rintro r rfl;refine o_ (h:=GO 4 (h:=?_));refine Bm 5 rfl (Bd rfl rfl rfl rfl rfl rfl (by repeat constructor) (by repeat constructor) ?_);refine o_ (h:=BN 6 (h:=z_ (h:=t_ (A4 (?_)))));refine Au (r:=NP (Fm n)) none (h5:=?_) (h6:=⟨rfl,rfl,rfl⟩);rw[Fm,if_neg (by simpa using hc1)];exact(by repeat (first|exact AX _|exact LeA.nil _|exact LeL.refl _|refine LeA.agg ?_|refine LeA.tup ?_|exact LeL.nil|refine LeL.cons ?_ ?_|exact LeA.any _))
end
structure Wch where
 kind:Int
 dir:AA
 name:AG
 file:AA
deriving DecidableEq
def DP:Wch:=⟨0,(0,0),⟨#[]⟩,(0,0)⟩
def CG(w:Wch):List AV:=[.v (.int .i64 w.kind), .v (.int .i64 w.dir.1), .v (.int .i64 w.dir.2), .v (.string w.name), .v (.int .i64 w.file.1), .v (.int .i64 w.file.2)]
def JL(s:Spc)(a:AA):Bool:=Am s.files a&&C3 s a.1
def EJ(s:Spc)(k:Int)(p:AG):Wch×Int:=
 if(k≠1∧k≠2)∨D2 p.data.toList=false then(DP,22)
 else if(Bt s (0,0) p (decide (k=2))).2≠0 then(DP,(Bt s (0,0) p (decide (k=2))).2)
 else if k=2 then
  (if(Bt s (0,0) p true).1.ex=false then(DP,2)else if Am s.files (Bt s (0,0) p true).1.file=false then(DP,20)
  else(⟨k,(0,0),⟨#[]⟩,(Bt s (0,0) p true).1.file⟩,0))
 else if(Bt s (0,0) p false).1.name=⟨#[]⟩then(DP,22)
 else(⟨k,(Bt s (0,0) p false).1.dir,(Bt s (0,0) p false).1.name,(AO s.files (Bt s (0,0) p false).1.dir (Bt s (0,0) p false).1.name).1⟩,0)
def Dm(s:Spc)(w:Wch):Bool:=
 if w.kind=1 then JL s w.dir&&decide ((AO s.files w.dir w.name).1=w.file)&&Cn w.name
 else if w.kind=2 then JL s w.file&&decide (w.dir=(0,0))&&decide (w.name=⟨#[]⟩)else false
def La(s:Spc)(a b:AA):Bool:=decide (a∈BJ s (BT s.files) b)
def D4(s:Spc)(w:Wch)(dir:AA)(name:AG)(file:AA):Bool:=
 if w.kind=1 then(decide (w.file≠(0,0))&&decide (file=w.file))||(decide (name≠⟨#[]⟩)&&decide (dir=w.dir)&&decide (name=w.name))
 else if w.kind=2 then La s w.file dir||La s w.file file else false
theorem bT{s:Spc}{fl:Bool}{p:AG}{ps:List AG}{a:AA}{lk:Nat}{τ:Lk}(h:Bp s fl p ps a lk= .inr τ)(hn:τ.name≠⟨#[]⟩):τ.dir=a∧Am s.files a=true:=by
 unfold Bp at h;split at h
 ·cases h
 rename_i c
 repeat' split at h
 all_goals first|(cases h;done)|(injection h with h;subst h;first|exact absurd rfl hn|exact⟨rfl,by simpa using c⟩)
section
variable {s:Spc}(hv:SpcV s)
include hv
theorem Q2:Am s.files (0,1)=true:=Pm hv (Int.le_refl 0) (by have:=hv.pos;omega)
theorem U8{a:AA}(h:Dg s a=true):JL s a=true:=by
 have h2:=K4 ((LW hv a).1 h).1.1;unfold JL;rw[h2.1,h2.2];rfl
theorem bU{fl:Bool}:∀(k:Nat) (σ:Lk),(Am s.files σ.file=true→Dg s σ.file=true)→(σ.name≠⟨#[]⟩→Dg s σ.dir=true)→(DT s fl k σ).1=0→(DT s fl k σ).2.name≠⟨#[]⟩→Dg s (DT s fl k σ).2.dir=true:=by
 intro k
 induction k with
 |zero=>intro σ _ h _ hn;exact h hn
 |succ k ih=>
   intro σ h1 h2;unfold DT
   cases σ.ps with
   |nil=>exact fun _=>h2
   |cons p ps=>
     simp only
     cases hs:Bp s fl p ps σ.file σ.links with
     |inl e=>exact fun c=>absurd c (Tv hs)
     |inr τ=>exact ih τ (Tu hv (Q2 hv) h1 hs) fun hn=>by obtain⟨e1,e2⟩:=bT hs hn;rw[e1];exact h1 e2
theorem bV{k:Int}{p:AG}(h:(EJ s k p).2=0):Dm s (EJ s k p).1=true:=by
 unfold EJ at h ⊢;split at h
 ·exact absurd h (by decide)
 rename_i c1;rw[if_neg c1];have hr:Dg s (Cq s)=true:=LX hv (Pv hv (Q2 hv));split at h
 ·rename_i c2;exact absurd h c2
 rename_i c2;rw[if_neg c2]
 have hfnd:∀fl,(Bt s (0,0) p fl).2=0→∃σ,(DT s (fl||B7 p) (Di σ) σ).1=0∧(Am s.files σ.file=true→Dg s σ.file=true)∧(σ.name≠⟨#[]⟩→Dg s σ.dir=true)∧(Bt s (0,0) p fl).1=F8 s (B7 p) (DT s (fl||B7 p) (Di σ) σ).2:=by
  intro fl h0;unfold Bt at h0 ⊢
  have hst:Am s.files (if Ca p=true then Cq s else(0,0))=true→Dg s (if Ca p=true then Cq s else(0,0))=true:=by
   split
   ·exact fun _=>hr
   intro h;rw[Pw hv]at h;cases h
  generalize (if Ca p=true then Cq s else(0,0))=d at h0 hst ⊢
  repeat' split at h0
  all_goals first|(exact absurd h0 (by decide);done)|(rename_i c;exact absurd h0 c;done)|skip
  rename_i d1 d2 d3 d4 d5;refine⟨Ej (CP p) d,by have:=d4;unfold DF at this;simpa using this,hst,fun hn=>absurd rfl hn,?_⟩;rw[if_neg d1,if_neg d2,if_neg d3,if_neg d4,if_neg d5];rfl
 split at h
 ·rename_i c3;rw[if_pos c3];split at h
  ·exact absurd h (by decide)
  rename_i c4;rw[if_neg c4];split at h
  ·exact absurd h (by decide)
  rename_i c5;rw[if_neg c5];have c5:Am s.files (Bt s (0,0) p true).1.file=true:=by simpa using c5
  have c2:(Bt s (0,0) p true).2=0:=by
   have:=c2;rw[decide_eq_true c3]at this
   simpa using this
  obtain⟨σ,h1,h2,h3,h4⟩:=hfnd true c2
  have hv2:Dg s (Bt s (0,0) p true).1.file=true:=by
   rw[h4]at c5 ⊢;exact Zn hv (Q2 hv) _ σ h2 h1 c5
  unfold Dm;simp only;rw[if_neg (by omega),if_pos c3,U8 hv hv2];rfl
 rename_i c3;rw[if_neg c3];split at h
 ·exact absurd h (by decide)
 rename_i c4;rw[if_neg c4]
 have hk:k=1:=by
  simp only[not_or,not_and,Decidable.not_not]at c1;exact Decidable.byContradiction fun hk=>c3 (c1.1 hk)
 have c2:(Bt s (0,0) p false).2=0:=by
  have:=c2;rw[decide_eq_false c3]at this
  simpa using this
 obtain⟨σ,h1,h2,h3,h4⟩:=hfnd false c2
 have hv2:Dg s (Bt s (0,0) p false).1.dir=true:=by
  rw[h4]at c4 ⊢;exact bU hv _ σ h2 h3 h1 c4
 have hnm:Cn (Bt s (0,0) p false).1.name=true:=by
  obtain⟨τ,ht,he⟩:=Zu hv (st:=(0,0)) (p:=p) (fl:=false) (x:=(Bt s (0,0) p false).1) (Prod.ext rfl c2);rw[he]at c4 ⊢;rcases ht with ht|ht
  ·exact absurd ht.1 c4
  exact ht.1
 unfold Dm;simp only;rw[if_pos hk,U8 hv hv2,hnm];simp
end
theorem NQ(a b:AA)(w:World):(binOp .eql 26 (.agg #[.int .i64 a.1, .int .i64 a.2]) (.agg #[.int .i64 b.1, .int .i64 b.2])).run prog w= .ok (.bool (decide (a=b))) w:=Kh a.1 a.2 b.1 b.2 w
theorem bW(a b:AA)(w:World):(binOp .neq 26 (.agg #[.int .i64 a.1, .int .i64 a.2]) (.agg #[.int .i64 b.1, .int .i64 b.2])).run prog w= .ok (.bool (!decide (a=b))) w:=Rd a.1 a.2 b.1 b.2 w
def NR(R:Wch×Int):AV:= .tup [.agg (CG R.1), .v (.int .i64 R.2)]
theorem U9(s:Spc)(k:Int)(p:AG)(F:Fnd×Int)(hF:Bt s (0,0) p (decide (k=2))=F):EJ s k p=if(k≠1∧k≠2)∨D2 p.data.toList=false then(DP,22)else if F.2≠0 then(DP,F.2)
    else if k=2 then(if F.1.ex=false then(DP,2)else if Am s.files F.1.file=false then(DP,20)else(⟨k,(0,0),⟨#[]⟩,F.1.file⟩,0))
    else if F.1.name=⟨#[]⟩then(DP,22)else(⟨k,F.1.dir,F.1.name,(AO s.files F.1.dir F.1.name).1⟩,0):=by
 unfold EJ;rw[hF];by_cases h:k=2
 ·rw[decide_eq_true h]at hF;simp only[if_pos h,hF]
 rw[decide_eq_false h]at hF;simp only[if_neg h,hF]
theorem bY{f:AZ}{dir:AA}{name:AG}(h:(AO f dir name).2≠0):(AO f dir name).1=(0,0):=by
 unfold AO at h ⊢;split
 ·rfl
 rename_i n e;rw[e]at h;simp only at h;split at h
 ·rename_i c;rw[if_pos c];split
  ·rfl
  rename_i e2;rw[e2]at h;exact absurd rfl h
 rename_i c;rw[if_neg c]
section
theorem NT(s:AG)(hs:s.size≤60000):AFn prog 183 [.v (.string s)] (fun r=>r= .v (.bool (D2 s.data.toList))):=MO (us:=[.string s]) fun w=>aJ s w (by omega)
theorem Q3(s:Spc)(a:AA)(hs:SpcB s):AFn prog 119 [.agg (Aj s), .agg (AD a)] (fun r=>r= .v (.bool (Am s.files a))):=by
 refine enter Tryz.func119 rfl rfl rfl rfl rfl 0 rfl ?_;refine w_ (b_ (h:=b_ (h:=a_ (h:=e_ (w_ (f_ (h:=l_ (h:=l_ (h:=?_)))))))));refine A6 rfl (AJ (G5 s.files a hs.files) ?_);rintro r rfl;refine m_ (h:=x_ (h:=x_ (h:=Ac (h:=s_ (h:=a_ (h:=e_ (w_ (m_ (h:=m_ (h:=?_))))))))));refine AR true rfl rfl (fun hb1=>?_) (fun hb1=>?_)
 ·have hc1:=bp hb1;refine f_ (h:=l_ (h:=AN (h:=AB (h:=a_ (h:=e_ (A4 (?_)))))));refine A8 ?_
  first|(exfalso;first|contradiction|omega)|(exact vb (by simp[FQ, *]))
 have hc1:=bp hb1;refine A3 (h:=A3 (h:=A3 (h:=AF (h:=a_ (h:=e_ (A4 (?_)))))));refine A8 ?_
 first|(exfalso;first|contradiction|omega)|(exact vb (by simp[FQ, *]))
theorem UA(s:Spc)(a:AA)(hs:SpcB s):AFn prog 132 [.agg (Aj s), .agg (AD a)] (fun r=>r= .v (.bool (JL s a))):=by
 refine enter Tryz.func132 rfl rfl rfl rfl rfl 0 rfl ?_;refine w_ (b_ (h:=b_ (h:=a_ (h:=e_ (w_ (l_ (h:=l_ (h:=?_))))))));refine A6 rfl (AJ (Q3 s a hs) ?_);rintro r rfl;refine m_ (h:=?_);refine AR true rfl rfl (fun hb1=>?_) (fun hb1=>?_)
 ·have hc1:=bp hb1;refine l_ (h:=f_ (h:=l_ (h:=?_)));refine Av (AJ (Rf s a.1 hs) ?_);rintro r rfl;refine AB (h:=a_ (h:=e_ (A4 (?_))));refine A8 ?_
  first|(exfalso;first|contradiction|omega)|(exact vb (by simp[JL, *]))
 have hc1:=bp hb1;refine A3 (h:=A3 (h:=A3 (h:=A3 (h:=AF (h:=a_ (h:=e_ (A4 (?_))))))));refine A8 ?_
 first|(exfalso;first|contradiction|omega)|(exact vb (by simp[JL, *]))
theorem UB(s:Spc)(a:AA)(name:AG)(hs:SpcB s):AFn prog 133 [.agg (Aj s), .agg (AD a), .v (.string name)] (fun r=>r= .agg (AD (AO s.files a name).1)):=by
 refine enter Tryz.func133 rfl rfl rfl rfl rfl 0 rfl ?_;refine w_ (b_ (h:=b_ (h:=Ac (h:=e_ (w_ (f_ (h:=l_ (h:=l_ (h:=m_ (h:=?_))))))))));refine A6 rfl (AJ (Py s.files a name hs.files) ?_);rintro r rfl;refine m_ (h:=x_ (h:=x_ (h:=Ac (h:=s_ (h:=a_ (h:=e_ (q_ (w_ (m_ (h:=Ao (h:=e_ (?_))))))))))));refine A9 rfl (fun hb1=>?_) (fun hb1=>?_)
 ·have hc1:=bp hb1;refine w_ (Ab (h:=s_ (h:=e_ (A4 (A7 (?_))))));refine A8 ?_;rw[bY (by simpa using hc1)];rfl
 have hc1:=bp hb1;refine AE (w_ (l_ (h:=s_ (h:=e_ (A4 (?_))))));refine A8 ?_;rfl
theorem bZ(s:Spc)(k:Int)(p:AG)(hv:SpcV s)(hm:s.mounts.length≤1000)(hp:p.size≤50000):AFn prog 130 [.agg (Aj s), .v (.int .i64 k), .v (.string p)] (fun r=>r=NR (EJ s k p)):=by
 have hsb:=hv.b hm;obtain⟨F,hF⟩:∃F,Bt s (0,0) p (decide (k=2))=F:=⟨_,rfl⟩;have hw:=U9 s k p F hF;have hfind:AFn prog 141 [.agg (Aj s), .agg (AD (0,0)), .v (.string p), .v (.bool (decide (k=2)))] (fun r=>r= .tup [.agg (Dh F.1), .v (.int .i64 F.2)]):=by rw[←hF];exact bQ s (0,0) p _ (hv.n hm) hv (by omega)
 refine enter Tryz.func130 rfl rfl rfl rfl rfl 0 rfl ?_;refine w_ (b_ (h:=Ac (h:=a_ (h:=e_ (q_ (?_))))));refine CA (fun S=>S=⟨look [(1, .v (.int .i64 k)),(2, .v (.string p)),(3, .bp 0 0),(6, .bp 1 0),(22, .v (.bool ((!decide (k=1)&& !decide (k=2))|| !D2 p.data.toList)))],⟨[Aj s,[.v (.int .i64 0), .v (.int .i64 0), .v (.int .i64 0), .v (.string ⟨#[]⟩), .v (.int .i64 0), .v (.int .i64 0)]],[]⟩⟩) ?_ ?_
 ·skip
  refine AW (m_ (h:=Ao (h:=m_ (h:=?_))));refine AR true rfl rfl (fun hb1=>?_) (fun hb1=>?_)
  ·have hc1:=bp hb1;refine m_ (h:=Ao (h:=AB (h:=m_ (h:=?_))));refine AR false rfl rfl (fun hb2=>?_) (fun hb2=>?_)
   ·have hc2:=bp hb2;refine A3 (h:=A3 (h:=A3 (h:=AB (h:=AQ (?_)))));refine AK ?_;exact⟨_,rfl,Cw 2 0 rfl⟩
   have hc2:=bp hb2;refine m_ (h:=?_);refine Av (AJ (NA p hp) ?_);rintro r rfl;refine BB (h:=AF (h:=AQ (?_)));refine AK ?_;exact⟨_,rfl,Cw 2 0 rfl⟩
  have hc1:=bp hb1;refine A3 (h:=A3 (h:=AF (h:=m_ (h:=m_ (h:=?_)))));refine Av (AJ (NA p hp) ?_);rintro r rfl;refine BB (h:=AF (h:=AQ (?_)));refine AK ?_;exact⟨_,rfl,Cw 2 0 rfl⟩
 rintro S rfl;refine A9 rfl (fun hb3=>?_) (fun hb3=>?_)
 ·have hc3:=bp hb3;have k1:(k≠1∧k≠2)∨D2 p.data.toList=false:=by simpa using hc3
  refine w_ (Ab (h:=s_ (h:=a_ (h:=e_ (A4 (A7 (?_)))))));refine A8 ?_;rw[hw,if_pos k1];rfl
 have hc3:=bp hb3;have k1:¬((k≠1∧k≠2)∨D2 p.data.toList=false):=by simpa using hc3
 refine AE (w_ (l_ (h:=Ab (h:=m_ (h:=m_ (h:=AN (h:=?_)))))));refine A6 rfl (AJ (hfind) ?_);rintro r rfl;refine m_ (h:=x_ (h:=x_ (h:=Ac (h:=s_ (h:=a_ (h:=e_ (q_ (w_ (m_ (h:=Ao (h:=e_ (?_))))))))))));refine A9 rfl (fun hb4=>?_) (fun hb4=>?_)
 ·have hc4:=bp hb4;have k2:F.2≠0:=by simpa using hc4
  refine w_ (Ab (h:=m_ (h:=s_ (h:=a_ (h:=e_ (A4 (A7 (?_))))))));refine A8 ?_;rw[hw,if_neg k1,if_pos k2];rfl
 have hc4:=bp hb4;have k2:¬F.2≠0:=by simpa using hc4
 refine AE (q_ (w_ (m_ (h:=AN (h:=e_ (?_))))));refine A9 rfl (fun hb5=>?_) (fun hb5=>?_)
 ·have hc5:=bp hb5;have k3:k=2:=hc5;refine q_ (w_ (f_ (h:=l_ (h:=BB (h:=e_ (?_))))));refine A9 rfl (fun hb6=>?_) (fun hb6=>?_)
  ·have hc6:=bp hb6;have k4:F.1.ex=false:=by simpa using hc6
   refine w_ (Ab (h:=s_ (h:=a_ (h:=e_ (A4 (A7 (A7 (?_))))))));refine A8 ?_;rw[hw,if_neg k1,if_neg k2,if_pos k3,if_pos k4];rfl
  have hc6:=bp hb6;have k4:¬F.1.ex=false:=by simpa using hc6
  refine AE (q_ (w_ (f_ (h:=l_ (h:=f_ (h:=l_ (h:=?_)))))));refine A6 rfl (AJ (GS s.files F.1.file hsb.files) ?_);rintro r rfl;refine BB (h:=e_ (?_));refine A9 rfl (fun hb7=>?_) (fun hb7=>?_)
  ·have hc7:=bp hb7;have k5:Am s.files F.1.file=false:=by simpa using hc7
   refine w_ (Ab (h:=s_ (h:=a_ (h:=e_ (A4 (A7 (A7 (?_))))))));refine A8 ?_;rw[hw,if_neg k1,if_neg k2,if_pos k3,if_neg k4,if_pos k5];rfl
  have hc7:=bp hb7;have k5:¬Am s.files F.1.file=false:=by simpa using hc7
  refine AE (w_ (m_ (h:=f_ (h:=l_ (h:=Ab (h:=s_ (h:=a_ (h:=e_ (A4 (A7 (?_)))))))))));refine A8 ?_;rw[hw,if_neg k1,if_neg k2,if_pos k3,if_neg k4,if_neg k5];rfl
 have hc5:=bp hb5;have k3:¬k=2:=hc5;refine AE (q_ (w_ (f_ (h:=l_ (h:=AN (h:=e_ (?_)))))));refine A9 rfl (fun hb8=>?_) (fun hb8=>?_)
 ·have hc8:=bp hb8;have k6:F.1.name=⟨#[]⟩:=hc8;refine w_ (Ab (h:=s_ (h:=a_ (h:=e_ (A4 (A7 (?_)))))));refine A8 ?_;rw[hw,if_neg k1,if_neg k2,if_neg k3,if_pos k6];rfl
 have hc8:=bp hb8;have k6:¬F.1.name=⟨#[]⟩:=hc8;refine AE (w_ (f_ (h:=l_ (h:=f_ (h:=l_ (h:=f_ (h:=l_ (h:=?_))))))));refine A6 rfl (AJ (H3 s.files F.1.dir F.1.name hsb.files) ?_);rintro r rfl;refine m_ (h:=x_ (h:=x_ (h:=Ac (h:=s_ (h:=a_ (h:=e_ (w_ (m_ (h:=f_ (h:=l_ (h:=f_ (h:=l_ (h:=l_ (h:=Ab (h:=s_ (h:=a_ (h:=e_ (A4 (?_)))))))))))))))))));refine A8 ?_;rw[hw,if_neg k1,if_neg k2,if_neg k3,if_neg k6];rfl
theorem cA(s:Spc)(k:Int)(p:AG)(hv:SpcV s)(hm:s.mounts.length≤1000)(hp:p.size≤50000):AFn prog 128 [.agg (Aj s), .v (.int .i64 k), .v (.string p)] (fun r=>r=NR (EJ s k p)):=by
 have hsb:=hv.b hm;obtain⟨F,hF⟩:∃F,Bt s (0,0) p (decide (k=2))=F:=⟨_,rfl⟩;have hw:=U9 s k p F hF;have hfind:AFn prog 184 [.agg (Aj s), .agg (AD (0,0)), .v (.string p), .v (.bool (decide (k=2)))] (fun r=>r= .tup [.agg (Dh F.1), .v (.int .i64 F.2)]):=by rw[←hF];exact bO s (0,0) p _ (hv.n hm) hv (by omega)
 refine enter Tryz.func128 rfl rfl rfl rfl rfl 0 rfl ?_;refine w_ (b_ (h:=Ac (h:=a_ (h:=e_ (q_ (?_))))));refine CA (fun S=>S=⟨look [(1, .v (.int .i64 k)),(2, .v (.string p)),(3, .bp 0 0),(6, .bp 1 0),(20, .v (.bool ((!decide (k=1)&& !decide (k=2))|| !D2 p.data.toList)))],⟨[Aj s,[.v (.int .i64 0), .v (.int .i64 0), .v (.int .i64 0), .v (.string ⟨#[]⟩), .v (.int .i64 0), .v (.int .i64 0)]],[]⟩⟩) ?_ ?_
 ·skip
  refine AW (m_ (h:=Ao (h:=m_ (h:=?_))));refine AR true rfl rfl (fun hb1=>?_) (fun hb1=>?_)
  ·have hc1:=bp hb1;refine m_ (h:=Ao (h:=AB (h:=m_ (h:=?_))));refine AR false rfl rfl (fun hb2=>?_) (fun hb2=>?_)
   ·have hc2:=bp hb2;refine A3 (h:=A3 (h:=A3 (h:=AB (h:=AQ (?_)))));refine AK ?_;exact⟨_,rfl,Cw 2 0 rfl⟩
   have hc2:=bp hb2;refine m_ (h:=?_);refine Av (AJ (NT p (by omega)) ?_);rintro r rfl;refine BB (h:=AF (h:=AQ (?_)));refine AK ?_;exact⟨_,rfl,Cw 2 0 rfl⟩
  have hc1:=bp hb1;refine A3 (h:=A3 (h:=AF (h:=m_ (h:=m_ (h:=?_)))));refine Av (AJ (NT p (by omega)) ?_);rintro r rfl;refine BB (h:=AF (h:=AQ (?_)));refine AK ?_;exact⟨_,rfl,Cw 2 0 rfl⟩
 rintro S rfl;refine A9 rfl (fun hb3=>?_) (fun hb3=>?_)
 ·have hc3:=bp hb3;have k1:(k≠1∧k≠2)∨D2 p.data.toList=false:=by simpa using hc3
  refine w_ (Ab (h:=s_ (h:=a_ (h:=e_ (A4 (A7 (?_)))))));refine A8 ?_;rw[hw,if_pos k1];rfl
 have hc3:=bp hb3;have k1:¬((k≠1∧k≠2)∨D2 p.data.toList=false):=by simpa using hc3
 refine AE (w_ (l_ (h:=Ab (h:=m_ (h:=m_ (h:=AN (h:=?_)))))));refine A6 rfl (AJ (hfind) ?_);rintro r rfl;refine m_ (h:=x_ (h:=x_ (h:=Ac (h:=s_ (h:=a_ (h:=e_ (q_ (w_ (m_ (h:=Ao (h:=e_ (?_))))))))))));refine A9 rfl (fun hb4=>?_) (fun hb4=>?_)
 ·have hc4:=bp hb4;have k2:F.2≠0:=by simpa using hc4
  refine w_ (Ab (h:=m_ (h:=s_ (h:=a_ (h:=e_ (A4 (A7 (?_))))))));refine A8 ?_;rw[hw,if_neg k1,if_pos k2];rfl
 have hc4:=bp hb4;have k2:¬F.2≠0:=by simpa using hc4
 refine AE (q_ (w_ (m_ (h:=AN (h:=e_ (?_))))));refine A9 rfl (fun hb5=>?_) (fun hb5=>?_)
 ·have hc5:=bp hb5;have k3:¬k=2:=by omega
  refine q_ (w_ (f_ (h:=l_ (h:=AN (h:=e_ (?_))))));refine A9 rfl (fun hb6=>?_) (fun hb6=>?_)
  ·have hc6:=bp hb6;have k6:F.1.name=⟨#[]⟩:=hc6;refine w_ (Ab (h:=s_ (h:=a_ (h:=e_ (A4 (A7 (A7 (?_))))))));refine A8 ?_;rw[hw,if_neg k1,if_neg k2,if_neg k3,if_pos k6];rfl
  have hc6:=bp hb6;have k6:¬F.1.name=⟨#[]⟩:=hc6;refine AE (q_ (CE ([(0,Aj s),(2,Dh F.1)]) 14 (h:=Ap 0 (h:=Ay 1 (h:=?_)))))
  first|refine AY 2 (h:=?_)|refine BK 2 rfl (fun _ hS=>Dr (row:=Aj s) rfl (kb hS rfl) (B8 rfl) rfl ⟨rfl,rfl⟩) ?_
  refine Ay 3 (h:=?_)
  first|refine AY 4 (h:=?_)|refine BK 4 rfl (fun _ hS=>Dr (row:=Aj s) rfl (kb hS rfl) (B8 rfl) rfl ⟨rfl,rfl⟩) ?_
  first|refine AY 5 (h:=?_)|refine BK 5 rfl (fun _ hS=>Dr (row:=Aj s) rfl (kb hS rfl) (B8 rfl) rfl ⟨rfl,rfl⟩) ?_
  refine Ay 6 (h:=?_)
  first|refine AY 7 (h:=?_)|refine BK 7 rfl (fun _ hS=>Dr (row:=Aj s) rfl (kb hS rfl) (B8 rfl) rfl ⟨rfl,rfl⟩) ?_
  refine Ay 8 (h:=?_)
  first|refine AY 9 (h:=?_)|refine BK 9 rfl (fun _ hS=>Dr (row:=Aj s) rfl (kb hS rfl) (B8 rfl) rfl ⟨rfl,rfl⟩) ?_
  refine c_ 10 rfl (AJ (UB s F.1.dir F.1.name hsb) ?_);rintro r rfl;refine o_ (h:=GO 11 (h:=?_));refine Bm 12 rfl (Bd rfl rfl rfl rfl rfl rfl (by repeat constructor) (by repeat constructor) ?_);refine o_ (h:=BN 13 (h:=z_ (h:=t_ (A4 (A7 (?_))))));refine A8 ?_;rw[hw,if_neg k1,if_neg k2,if_neg k3,if_neg k6];rfl
 have hc5:=bp hb5;have k3:k=2:=by simp at k1;omega
 refine AE (q_ (w_ (f_ (h:=l_ (h:=BB (h:=e_ (?_)))))));refine A9 rfl (fun hb7=>?_) (fun hb7=>?_)
 ·have hc7:=bp hb7;have k4:F.1.ex=false:=by simpa using hc7
  refine w_ (Ab (h:=s_ (h:=a_ (h:=e_ (A4 (A7 (?_)))))));refine A8 ?_;rw[hw,if_neg k1,if_neg k2,if_pos k3,if_pos k4];rfl
 have hc7:=bp hb7;have k4:¬F.1.ex=false:=by simpa using hc7
 refine AE (q_ (w_ (l_ (h:=f_ (h:=l_ (h:=?_))))));refine A6 rfl (AJ (Q3 s F.1.file hsb) ?_);rintro r rfl;refine BB (h:=e_ (?_));refine A9 rfl (fun hb8=>?_) (fun hb8=>?_)
 ·have hc8:=bp hb8;have k5:Am s.files F.1.file=false:=by simpa using hc8
  refine w_ (Ab (h:=s_ (h:=a_ (h:=e_ (A4 (A7 (?_)))))));refine A8 ?_;rw[hw,if_neg k1,if_neg k2,if_pos k3,if_neg k4,if_pos k5];rfl
 have hc8:=bp hb8;have k5:¬Am s.files F.1.file=false:=by simpa using hc8
 refine AE (w_ (m_ (h:=f_ (h:=l_ (h:=Ab (h:=s_ (h:=a_ (h:=e_ (A4 (?_))))))))));refine A8 ?_;rw[hw,if_neg k1,if_neg k2,if_pos k3,if_neg k4,if_neg k5];rfl
theorem cB(s:Spc)(w:Wch)(hs:SpcB s):AFn prog 91 [.agg (Aj s), .agg (CG w)] (fun r=>r= .v (.bool (Dm s w))):=by
 refine enter Tryz.func91 rfl rfl rfl rfl rfl 0 rfl ?_;refine w_ (b_ (h:=b_ (h:=a_ (h:=e_ (q_ (w_ (f_ (h:=l_ (h:=e_ (Af (w_ (AN (h:=a_ (h:=e_ (?_)))))))))))))));refine A9 rfl (fun hb1=>?_) (fun hb1=>?_)
 ·have hc1:=bp hb1;refine q_ (D7 21 (h:=Ay 0 (h:=AY 1 (h:=?_))));refine c_ 2 rfl (AJ (To w.name) ?_);rintro r rfl;refine o_ (h:=Ap 3 (h:=?_));refine Hl (j:=3) rfl (fun hb2=>?_) (fun hb2=>?_)
  ·have hc2:=bp hb2;refine AY 4 (h:=Ay 5 (h:=AY 6 (h:=?_)));refine c_ 7 rfl (AJ (UA s w.dir hs) ?_);rintro r rfl;refine o_ (h:=Gt 8 (h:=Ap 9 (h:=?_)));refine Hl (j:=9) rfl (fun hb3=>?_) (fun hb3=>?_)
   ·have hc3:=bp hb3;refine Ay 10 (h:=AY 11 (h:=AY 12 (h:=Ay 13 (h:=AY 14 (h:=Ay 15 (h:=AY 16 (h:=?_)))))));refine c_ 17 rfl (AJ (UB s w.dir w.name hs) ?_);rintro r rfl;refine o_ (h:=?_);refine EP (i:=18) rfl (Ea rfl rfl (by repeat constructor) (by repeat constructor) (fun W=>NQ w.file (AO s.files w.dir w.name).1 W) (by kernel_rfl) ⟨rfl,rfl⟩) ?_;refine Gt 19 (h:=BN 20 (h:=z_ (h:=t_ (A4 (AP (A7 (?_)))))));refine A8 ?_
    first|(exfalso;first|contradiction|omega)|(exact vb (by first|(simp[Dm, *];done)|(simp[Dm, *,eq_comm];done)))
   have hc3:=bp hb3;refine Ba 10 (h:=Ba 11 (h:=Ba 12 (h:=Ba 13 (h:=Ba 14 (h:=Ba 15 (h:=Ba 16 (h:=Ba 17 (h:=Ba 18 (h:=Gu 19 (h:=BN 20 (h:=z_ (h:=t_ (A4 (AP (A7 (?_))))))))))))))));refine A8 ?_
   first|(exfalso;first|contradiction|omega)|(exact vb (by first|(simp[Dm, *];done)|(simp[Dm, *,eq_comm];done)))
  have hc2:=bp hb2;refine Ba 4 (h:=Ba 5 (h:=Ba 6 (h:=Ba 7 (h:=Gu 8 (h:=Ap 9 (h:=Ba 10 (h:=Ba 11 (h:=Ba 12 (h:=Ba 13 (h:=Ba 14 (h:=Ba 15 (h:=Ba 16 (h:=Ba 17 (h:=Ba 18 (h:=Gu 19 (h:=BN 20 (h:=z_ (h:=t_ (A4 (AP (A7 (?_))))))))))))))))))))));refine A8 ?_
  first|(exfalso;first|contradiction|omega)|(exact vb (by first|(simp[Dm, *];done)|(simp[Dm, *,eq_comm];done)))
 have hc1:=bp hb1;refine w_ (AN (h:=a_ (h:=e_ (?_))));refine A9 rfl (fun hb4=>?_) (fun hb4=>?_)
 ·have hc4:=bp hb4;refine w_ (f_ (h:=l_ (h:=Ab (h:=?_))));refine A6 rfl (Ea rfl rfl (by repeat constructor) (by repeat constructor) (fun W=>NQ w.dir (0,0) W) (by kernel_rfl) ?_);refine m_ (h:=?_);refine AR true rfl rfl (fun hb5=>?_) (fun hb5=>?_)
  ·have hc5:=bp hb5;refine f_ (h:=l_ (h:=AN (h:=AB (h:=m_ (h:=?_)))));refine AR true rfl rfl (fun hb6=>?_) (fun hb6=>?_)
   ·have hc6:=bp hb6;refine l_ (h:=f_ (h:=l_ (h:=?_)));refine Av (AJ (UA s w.file hs) ?_);rintro r rfl;refine AB (h:=a_ (h:=e_ (A4 (AP (A7 (?_))))));refine A8 ?_
    first|(exfalso;first|contradiction|omega)|(exact vb (by first|(simp[Dm, *];done)|(simp[Dm, *,eq_comm];done)))
   have hc6:=bp hb6;refine A3 (h:=A3 (h:=A3 (h:=A3 (h:=AF (h:=a_ (h:=e_ (A4 (AP (A7 (?_))))))))));refine A8 ?_
   first|(exfalso;first|contradiction|omega)|(exact vb (by first|(simp[Dm, *];done)|(simp[Dm, *,eq_comm];done)))
  have hc5:=bp hb5;refine A3 (h:=A3 (h:=A3 (h:=AF (h:=m_ (h:=A3 (h:=A3 (h:=A3 (h:=A3 (h:=AF (h:=a_ (h:=e_ (A4 (AP (A7 (?_)))))))))))))));refine A8 ?_
  first|(exfalso;first|contradiction|omega)|(exact vb (by first|(simp[Dm, *];done)|(simp[Dm, *,eq_comm];done)))
 have hc4:=bp hb4;refine Aw (Al (t_ (w_ (a_ (h:=e_ (A4 (?_)))))));refine A8 ?_
 first|(exfalso;first|contradiction|omega)|(exact vb (by first|(simp[Dm, *];done)|(simp[Dm, *,eq_comm];done)))
end
end Go.Proofs.YtbgnigjfkbmceaaGreatDoor
