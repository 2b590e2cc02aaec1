/-
  Part 14 of the proof of FilterContextsP: what the statement's proof uses of the texts in wip/tpl.
-/
import Derived.Test.YtbgnigjfkbmceaaGreatDoorQb13
open Go.Proofs.Tryz (prog)
set_option maxRecDepth 10000
set_option maxHeartbeats 4000000
set_option linter.unusedVariables false
set_option linter.unusedSimpArgs false
namespace Go.Proofs.YtbgnigjfkbmceaaGreatDoor
open Go.RowKit
def NZ(s:Spc)(tg:AM)(rest:List AM)(w:Wk):Wk:=⟨CZ tg++rest,if Cq tg=true then Dd s else w.at_,if Cq tg=true then(0,0)else w.dir,if Cq tg=true then⟨#[]⟩else w.name,w.missing,w.links+1⟩
theorem Na(s:Spc)(fl:Bool)(w:Wk):BB 0 0 (Dk s fl w)=true:=rfl
section
theorem cA(s:Spc)(fl:Bool)(w:Wk)(tg:AM)(rest:List AM)(hs:SpcB s)(h8:w.links≤8)(htg:tg.size≤60000)(hrl:rest.length≤500000):MN prog 266 [.bp 0 0, .v (.string tg), .sl 1 (rest.map Ci) none] (Dk s fl w) (fun r row'=>(w.links=8∧r= .v (.int .i64 40)∧row'=Dk s fl w)∨(w.links≠8∧r= .v (.int .i64 0)∧row'=Dk s fl (NZ s tg rest w))):=by
 have hpl:=KO tg;refine enter Tryz.func266 rfl rfl rfl rfl rfl 1 rfl ?_;refine w_ (a_ (h:=e_ (q_ (w_ (m_ (h:=k_ (h:=f_ (h:=l_ (h:=AK (h:=e_ (?_)))))))))));refine A9 rfl (fun hb1=>?_) (fun hb1=>?_)
 ·have hc1:=bp hb1;refine w_ (a_ (h:=e_ (A4 (A8 (?_)))));refine Av none (h5:=(AZ _)) (h6:=⟨_,rfl,rfl, .inl ⟨by omega,rfl,rfl⟩⟩)
 have hc1:=bp hb1;refine AD (w_ (m_ (h:=k_ (h:=f_ (h:=l_ (h:=?_))))));refine A6 rfl (JB rfl rfl (by omega) ?_);refine k_ (h:=f_ (h:=s_ (h:=e_ (w_ (m_ (h:=?_))))));refine A6 rfl (AB (UO tg htg) ?_);rintro r rfl;refine m_ (h:=x_ (h:=x_ (h:=x_ (h:=a_ (h:=a_ (h:=a_ (h:=e_ (w_ (m_ (h:=m_ (h:=m_ (h:=n_ (h:=m_ (h:=n_ (h:=?_)))))))))))))));refine bR rfl rfl rfl rfl rfl rfl rfl rfl rfl rfl (by simp;omega) ?_;refine k_ (h:=f_ (h:=s_ (h:=e_ (q_ (w_ (m_ (h:=?_)))))));refine A6 rfl (AB (bV tg) ?_);rintro r rfl;refine e_ (?_);refine A9 rfl (fun hb2=>?_) (fun hb2=>?_)
 ·have hc2:=bp hb2;refine AR (m_ (h:=m_ (h:=m_ (h:=m_ (h:=k_ (h:=f_ (h:=l_ (h:=?_))))))));refine A6 rfl (AB (UQ s hs) ?_);rintro r rfl;refine AX (h:=k_ (h:=f_ (h:=s_ (h:=k_ (h:=f_ (h:=s_ (h:=k_ (h:=f_ (h:=s_ (h:=e_ (w_ (a_ (h:=e_ (A4 (?_)))))))))))))));refine Av none (h5:=(AZ _)) (h6:=⟨_,rfl,rfl, .inr ⟨by omega,rfl,by simp only[Dk,NZ,if_pos hc2,List.map_append];rfl⟩⟩)
 have hc2:=bp hb2;refine AD (w_ (a_ (h:=e_ (A4 (?_)))));refine Av none (h5:=(AZ _)) (h6:=⟨_,rfl,rfl, .inr ⟨by omega,rfl,by simp only[Dk,NZ,hc2,if_neg (show¬false=true by simp),List.map_append];rfl⟩⟩)
theorem cB(s:Spc)(fl:Bool)(w:Wk)(p:AM)(ps:List AM)(hps:w.ps=p::ps)(hs:SpcB s)(hv:SpcV s)(h8:w.links≤8)(hrl:ps.length≤500000):MN prog 243 [.bp 0 0] (Dk s fl w) (fun r row'=>(∃e,Dj s fl p ps w= .inl e∧e≠0∧r= .v (.int .i64 e)∧row'=Dk s fl w)∨∃w',Dj s fl p ps w= .inr w'∧r= .v (.int .i64 0)∧row'=Dk s fl w'):=by
 obtain⟨ps0,a,dr,nm,mi,lk⟩:=w;simp only at hps h8;subst hps;have hml:(ps.map Ci).length=ps.length:=by simp
 have htg:=LZ hv.files (AU s.files a p).1;refine enter Tryz.func243 rfl rfl rfl rfl rfl 1 rfl ?_;refine w_ (a_ (h:=e_ (q_ (C3 ([(0,Dk s fl ⟨p::ps,a,dr,nm,mi,lk⟩)]) 13 (h:=Ac 0 (h:=Dx 1 (h:=Aw 2 (h:=AO 3 (h:=?_)))))))));refine BN 4 rfl (fun _ hS=>DX (n:=0) rfl rfl rfl rfl ⟨rfl,rfl⟩) ?_;refine AO 5 (h:=Ac 6 (h:=Dx 7 (h:=Aw 8 (h:=AO 9 (h:=?_)))));refine BN 10 rfl (fun _ hS=>Qx (l:=1) rfl rfl rfl (by simp) ⟨rfl,rfl⟩) ?_;refine BL 11 (h:=BL 12 (h:=z_ (h:=t_ (q_ (w_ (m_ (h:=?_)))))));refine A6 rfl (Fr 1 rfl (.cons _ _ _ _ _ rfl (AZ _) .nil) (QH s fl ⟨p::ps,a,dr,nm,mi,lk⟩ hs) ?_);rintro r rfl;refine⟨rfl,?_⟩;refine B7 (h:=e_ (?_));refine A9 rfl (fun hb1=>?_) (fun hb1=>?_)
 ·have hc1:=bp hb1;refine w_ (a_ (h:=e_ (A4 (A8 (?_)))));refine Av none (h5:=(AZ _)) (h6:=⟨_,rfl,rfl, .inl ⟨20,by unfold Dj;rw[if_pos hc1],by decide,rfl,rfl⟩⟩)
 have hc1:=bp hb1;refine AD (q_ (w_ (m_ (h:=n_ (h:=Ba (h:=e_ (?_)))))));refine A9 rfl (fun hb2=>?_) (fun hb2=>?_)
 ·have hc2:=bp hb2;refine w_ (a_ (h:=e_ (A4 (A8 (?_)))));refine Av none (h5:=(AZ _)) (h6:=⟨_,rfl,rfl, .inl ⟨36,by unfold Dj;rw[if_neg (by simp[hc1]),if_pos (by omega)],by decide,rfl,rfl⟩⟩)
 have hc2:=bp hb2;refine AD (q_ (w_ (m_ (h:=e_ (Ab (q_ (Ab (q_ (Ab (q_ (q_ (w_ (AK (h:=a_ (h:=e_ (?_))))))))))))))));refine A9 rfl (fun hb3=>?_) (fun hb3=>?_)
 ·have hc3:=bp hb3;refine BF (Ah (Ah (BG (t_ (?_)))));refine Jk (fun h=>∃x y,h.bx=[[.sl 2 (s.files.map Bo) none, .sl 3 (s.mounts.map Cu) none, .sl 1 ((p::ps).map Ci) none,x,y, .v (.int .i64 dr.1), .v (.int .i64 dr.2), .v (.string nm), .v (.bool mi), .v (.bool fl), .v (.int .i64 (lk:Int))]]) 18 (by kernel_rfl) ?_;refine BO (i:=0) rfl rfl (by kernel_rfl) (by first|rfl|exact AQ rfl rfl (BC ‹_›)|exact AQ rfl rfl (BD ‹_›)|exact AQ rfl rfl (by simp[*])) (fun h0 hS=>EK rfl ⟨rfl,rfl⟩) ⟨_,_,rfl⟩ ?_;refine BO (i:=1) rfl rfl (by kernel_rfl) (by first|rfl|exact AQ rfl rfl (BC ‹_›)|exact AQ rfl rfl (BD ‹_›)|exact AQ rfl rfl (by simp[*])) (fun h0 hS=>EK rfl ⟨rfl,rfl⟩) ⟨_,_,rfl⟩ ?_
  first|refine BO (i:=2) rfl rfl (by kernel_rfl) (by first|rfl|exact AQ rfl rfl (BC ‹_›)|exact AQ rfl rfl (BD ‹_›)|exact AQ rfl rfl (by simp[*])) (fun h0 hS=>G9 rfl ⟨rfl,rfl⟩) ⟨_,_,rfl⟩ ?_|refine BO (i:=2) rfl rfl (by kernel_rfl) (by first|rfl|exact AQ rfl rfl (BC ‹_›)|exact AQ rfl rfl (BD ‹_›)|exact AQ rfl rfl (by simp[*])) (fun h0 hS=>GA rfl ⟨rfl,rfl⟩) ⟨_,_,rfl⟩ ?_
  first|refine BO (i:=3) rfl rfl (by kernel_rfl) (by first|rfl|exact AQ rfl rfl (BC ‹_›)|exact AQ rfl rfl (BD ‹_›)|exact AQ rfl rfl (by simp[*])) (fun h0 hS=>E0 rfl ⟨rfl,rfl⟩) ⟨_,_,rfl⟩ ?_|refine BO (i:=3) rfl rfl (by kernel_rfl) (by first|rfl|exact AQ rfl rfl (BC ‹_›)|exact AQ rfl rfl (BD ‹_›)|exact AQ rfl rfl (by simp[*])) (fun h0 hS=>GB rfl ⟨rfl,rfl⟩) ⟨_,_,rfl⟩ ?_
  first|refine BO (i:=4) rfl rfl (by kernel_rfl) (by first|rfl|exact AQ rfl rfl (BC ‹_›)|exact AQ rfl rfl (BD ‹_›)|exact AQ rfl rfl (by simp[*])) (fun h0 hS=>by obtain⟨x,y,e⟩:=hS;exact EY (row:=[.sl 2 (s.files.map Bo) none, .sl 3 (s.mounts.map Cu) none, .sl 1 ((p::ps).map Ci) none,x,y, .v (.int .i64 dr.1), .v (.int .i64 dr.2), .v (.string nm), .v (.bool mi), .v (.bool fl), .v (.int .i64 (lk:Int))]) rfl (by rw[e];rfl) rfl (show _=AV.agg (Aj s)∧_ from⟨rfl,rfl⟩)) ⟨_,_,rfl⟩ ?_|refine BO (i:=4) rfl rfl (by kernel_rfl) (by first|rfl|exact AQ rfl rfl (BC ‹_›)|exact AQ rfl rfl (BD ‹_›)|exact AQ rfl rfl (by simp[*])) (fun h0 hS=>Be rfl rfl rfl ⟨rfl,rfl⟩) ⟨_,_,rfl⟩ ?_|refine BO (i:=4) rfl rfl (by kernel_rfl) (by first|rfl|exact AQ rfl rfl (BC ‹_›)|exact AQ rfl rfl (BD ‹_›)|exact AQ rfl rfl (by simp[*])) (fun h0 hS=>F2 rfl rfl rfl ⟨rfl,rfl⟩) ⟨_,_,rfl⟩ ?_|refine BO (i:=4) rfl rfl (by kernel_rfl) (by first|rfl|exact AQ rfl rfl (BC ‹_›)|exact AQ rfl rfl (BD ‹_›)|exact AQ rfl rfl (by simp[*])) (fun h0 hS=>GC rfl rfl ⟨rfl,rfl⟩) ⟨_,_,rfl⟩ ?_|refine BO (i:=4) rfl rfl (by kernel_rfl) (by first|rfl|exact AQ rfl rfl (BC ‹_›)|exact AQ rfl rfl (BD ‹_›)|exact AQ rfl rfl (by simp[*])) (fun h0 hS=>HG rfl rfl ⟨rfl,rfl⟩) ⟨_,_,rfl⟩ ?_|refine BO (i:=4) rfl rfl (by kernel_rfl) (by first|rfl|exact AQ rfl rfl (BC ‹_›)|exact AQ rfl rfl (BD ‹_›)|exact AQ rfl rfl (by simp[*])) (fun h0 hS=>EY rfl rfl rfl ⟨rfl,rfl⟩) ⟨_,_,rfl⟩ ?_|refine BO (i:=4) rfl rfl (by kernel_rfl) (by first|rfl|exact AQ rfl rfl (BC ‹_›)|exact AQ rfl rfl (BD ‹_›)|exact AQ rfl rfl (by simp[*])) (fun h0 hS=>Gd rfl rfl ⟨rfl,rfl⟩) ⟨_,_,rfl⟩ ?_
  refine BO (i:=5) rfl rfl (by kernel_rfl) (by first|rfl|exact AQ rfl rfl (BC ‹_›)|exact AQ rfl rfl (BD ‹_›)|exact AQ rfl rfl (by simp[*])) (fun h0 hS=>EK rfl ⟨rfl,rfl⟩) ⟨_,_,rfl⟩ ?_
  first|refine BO (i:=6) rfl rfl (by kernel_rfl) (by first|rfl|exact AQ rfl rfl (BC ‹_›)|exact AQ rfl rfl (BD ‹_›)|exact AQ rfl rfl (by simp[*])) (fun h0 hS=>G9 rfl ⟨rfl,rfl⟩) ⟨_,_,rfl⟩ ?_|refine BO (i:=6) rfl rfl (by kernel_rfl) (by first|rfl|exact AQ rfl rfl (BC ‹_›)|exact AQ rfl rfl (BD ‹_›)|exact AQ rfl rfl (by simp[*])) (fun h0 hS=>GA rfl ⟨rfl,rfl⟩) ⟨_,_,rfl⟩ ?_
  first|refine BO (i:=7) rfl rfl (by kernel_rfl) (by first|rfl|exact AQ rfl rfl (BC ‹_›)|exact AQ rfl rfl (BD ‹_›)|exact AQ rfl rfl (by simp[*])) (fun h0 hS=>E0 rfl ⟨rfl,rfl⟩) ⟨_,_,rfl⟩ ?_|refine BO (i:=7) rfl rfl (by kernel_rfl) (by first|rfl|exact AQ rfl rfl (BC ‹_›)|exact AQ rfl rfl (BD ‹_›)|exact AQ rfl rfl (by simp[*])) (fun h0 hS=>GB rfl ⟨rfl,rfl⟩) ⟨_,_,rfl⟩ ?_
  first|refine BO (i:=8) rfl rfl (by kernel_rfl) (by first|rfl|exact AQ rfl rfl (BC ‹_›)|exact AQ rfl rfl (BD ‹_›)|exact AQ rfl rfl (by simp[*])) (fun h0 hS=>by obtain⟨x,y,e⟩:=hS;exact EY (row:=[.sl 2 (s.files.map Bo) none, .sl 3 (s.mounts.map Cu) none, .sl 1 ((p::ps).map Ci) none,x,y, .v (.int .i64 dr.1), .v (.int .i64 dr.2), .v (.string nm), .v (.bool mi), .v (.bool fl), .v (.int .i64 (lk:Int))]) rfl (by rw[e];rfl) rfl (show _=AV.agg (Aj s)∧_ from⟨rfl,rfl⟩)) ⟨_,_,rfl⟩ ?_|refine BO (i:=8) rfl rfl (by kernel_rfl) (by first|rfl|exact AQ rfl rfl (BC ‹_›)|exact AQ rfl rfl (BD ‹_›)|exact AQ rfl rfl (by simp[*])) (fun h0 hS=>Be rfl rfl rfl ⟨rfl,rfl⟩) ⟨_,_,rfl⟩ ?_|refine BO (i:=8) rfl rfl (by kernel_rfl) (by first|rfl|exact AQ rfl rfl (BC ‹_›)|exact AQ rfl rfl (BD ‹_›)|exact AQ rfl rfl (by simp[*])) (fun h0 hS=>F2 rfl rfl rfl ⟨rfl,rfl⟩) ⟨_,_,rfl⟩ ?_|refine BO (i:=8) rfl rfl (by kernel_rfl) (by first|rfl|exact AQ rfl rfl (BC ‹_›)|exact AQ rfl rfl (BD ‹_›)|exact AQ rfl rfl (by simp[*])) (fun h0 hS=>GC rfl rfl ⟨rfl,rfl⟩) ⟨_,_,rfl⟩ ?_|refine BO (i:=8) rfl rfl (by kernel_rfl) (by first|rfl|exact AQ rfl rfl (BC ‹_›)|exact AQ rfl rfl (BD ‹_›)|exact AQ rfl rfl (by simp[*])) (fun h0 hS=>HG rfl rfl ⟨rfl,rfl⟩) ⟨_,_,rfl⟩ ?_|refine BO (i:=8) rfl rfl (by kernel_rfl) (by first|rfl|exact AQ rfl rfl (BC ‹_›)|exact AQ rfl rfl (BD ‹_›)|exact AQ rfl rfl (by simp[*])) (fun h0 hS=>EY rfl rfl rfl ⟨rfl,rfl⟩) ⟨_,_,rfl⟩ ?_|refine BO (i:=8) rfl rfl (by kernel_rfl) (by first|rfl|exact AQ rfl rfl (BC ‹_›)|exact AQ rfl rfl (BD ‹_›)|exact AQ rfl rfl (by simp[*])) (fun h0 hS=>Gd rfl rfl ⟨rfl,rfl⟩) ⟨_,_,rfl⟩ ?_
  refine BO (i:=9) rfl rfl (by kernel_rfl) (by first|rfl|exact AQ rfl rfl (BC ‹_›)|exact AQ rfl rfl (BD ‹_›)|exact AQ rfl rfl (by simp[*])) (fun h0 hS=>EK rfl ⟨rfl,rfl⟩) ⟨_,_,rfl⟩ ?_
  first|refine BO (i:=10) rfl rfl (by kernel_rfl) (by first|rfl|exact AQ rfl rfl (BC ‹_›)|exact AQ rfl rfl (BD ‹_›)|exact AQ rfl rfl (by simp[*])) (fun h0 hS=>G9 rfl ⟨rfl,rfl⟩) ⟨_,_,rfl⟩ ?_|refine BO (i:=10) rfl rfl (by kernel_rfl) (by first|rfl|exact AQ rfl rfl (BC ‹_›)|exact AQ rfl rfl (BD ‹_›)|exact AQ rfl rfl (by simp[*])) (fun h0 hS=>GA rfl ⟨rfl,rfl⟩) ⟨_,_,rfl⟩ ?_
  first|refine BO (i:=11) rfl rfl (by kernel_rfl) (by first|rfl|exact AQ rfl rfl (BC ‹_›)|exact AQ rfl rfl (BD ‹_›)|exact AQ rfl rfl (by simp[*])) (fun h0 hS=>E0 rfl ⟨rfl,rfl⟩) ⟨_,_,rfl⟩ ?_|refine BO (i:=11) rfl rfl (by kernel_rfl) (by first|rfl|exact AQ rfl rfl (BC ‹_›)|exact AQ rfl rfl (BD ‹_›)|exact AQ rfl rfl (by simp[*])) (fun h0 hS=>GB rfl ⟨rfl,rfl⟩) ⟨_,_,rfl⟩ ?_
  first|refine c_ 12 rfl (Be rfl rfl rfl ?_)|refine c_ 12 rfl (F2 rfl rfl rfl ?_)|refine c_ 12 rfl (GC rfl rfl ?_)|refine c_ 12 rfl (HG rfl rfl ?_)|refine c_ 12 rfl (EY rfl rfl rfl ?_)|refine c_ 12 rfl (Gd rfl rfl ?_)
  refine⟨.inr ⟨_,_,rfl⟩,?_⟩;refine c_ 13 rfl (AB (ZV hs hv a) ?_);rintro r rfl;refine⟨.inr ⟨_,_,rfl⟩,?_⟩;refine c_ 14 rfl (AB (Ov s (DM s (s.mounts.length+1) a) hs) ?_);rintro r rfl;refine⟨.inr ⟨_,_,rfl⟩,?_⟩
  first|refine BO (i:=15) rfl rfl (by kernel_rfl) (by first|rfl|exact AQ rfl rfl (BC ‹_›)|exact AQ rfl rfl (BD ‹_›)|exact AQ rfl rfl (by simp[*])) (fun h0 hS=>G9 rfl ⟨rfl,rfl⟩) ⟨_,_,rfl⟩ ?_|refine BO (i:=15) rfl rfl (by kernel_rfl) (by first|rfl|exact AQ rfl rfl (BC ‹_›)|exact AQ rfl rfl (BD ‹_›)|exact AQ rfl rfl (by simp[*])) (fun h0 hS=>GA rfl ⟨rfl,rfl⟩) ⟨_,_,rfl⟩ ?_
  first|refine BO (i:=16) rfl rfl (by kernel_rfl) (by first|rfl|exact AQ rfl rfl (BC ‹_›)|exact AQ rfl rfl (BD ‹_›)|exact AQ rfl rfl (by simp[*])) (fun h0 hS=>E0 rfl ⟨rfl,rfl⟩) ⟨_,_,rfl⟩ ?_|refine BO (i:=16) rfl rfl (by kernel_rfl) (by first|rfl|exact AQ rfl rfl (BC ‹_›)|exact AQ rfl rfl (BD ‹_›)|exact AQ rfl rfl (by simp[*])) (fun h0 hS=>GB rfl ⟨rfl,rfl⟩) ⟨_,_,rfl⟩ ?_
  refine Bd 17 rfl (BY rfl rfl rfl rfl rfl rfl (by repeat constructor) (by repeat constructor) ?_);refine⟨.inr ⟨_,_,rfl⟩,?_⟩;refine z_ (h:=Ai (t_ (q_ (w_ (m_ (h:=m_ (h:=m_ (h:=m_ (h:=AX (h:=k_ (h:=f_ (h:=s_ (h:=k_ (h:=f_ (h:=s_ (h:=k_ (h:=f_ (h:=s_ (h:=e_ (w_ (a_ (h:=e_ (A4 (?_))))))))))))))))))))))));refine A8 (AN (A8 (?_)));refine Av none (h5:=(AZ _)) (h6:=⟨_,rfl,rfl, .inr ⟨⟨ps,Cd s s.mounts.length (DM s (s.mounts.length+1) a),(0,0),⟨#[]⟩,mi,lk⟩,by unfold Dj;rw[if_neg (by simp[hc1]),if_neg (by omega),if_pos hc3],rfl,rfl⟩⟩)
 have hc3:=bp hb3;refine AD (w_ (AK (h:=a_ (h:=e_ (?_)))));refine A9 rfl (fun hb4=>?_) (fun hb4=>?_)
 ·have hc4:=bp hb4;refine BF (Ah (KY rfl (Ah (BG (t_ (q_ (w_ (m_ (h:=m_ (h:=m_ (h:=m_ (h:=AX (h:=k_ (h:=f_ (h:=s_ (h:=k_ (h:=f_ (h:=s_ (h:=k_ (h:=f_ (h:=s_ (h:=e_ (w_ (?_))))))))))))))))))))))));refine a_ (h:=e_ (A4 (A8 (AN (A8 (?_))))));refine Av none (h5:=(AZ _)) (h6:=⟨_,rfl,rfl, .inr ⟨⟨ps,a,(0,0),⟨#[]⟩,mi,lk⟩,by unfold Dj;rw[if_neg (by simp[hc1]),if_neg (by omega),if_neg hc3,if_pos hc4],rfl,rfl⟩⟩)
 have hc4:=bp hb4;refine AD (BF (KY rfl (Ah (KY rfl (Ah (BG (t_ (q_ (w_ (m_ (h:=?_)))))))))));refine A6 rfl (AB (Zz p) ?_);rintro r rfl;refine B7 (h:=e_ (?_));refine A9 rfl (fun hb5=>?_) (fun hb5=>?_)
 ·have hc5:=bp hb5;refine w_ (a_ (h:=e_ (A4 (A8 (?_)))));refine Av none (h5:=(AZ _)) (h6:=⟨_,rfl,rfl, .inl ⟨2,by unfold Dj;rw[if_neg (by simp[hc1]),if_neg (by omega),if_neg hc3,if_neg hc4,if_pos hc5],by decide,rfl,rfl⟩⟩)
 have hc5:=bp hb5;refine AD (?_);refine Dt (⟨look [(0, .bp 0 0),(3, .v (.string p)),(4, .sl 1 (ps.map Ci) none),(5, .bp 1 0),(6, .v (.int .i64 (AU s.files a p).2))],⟨[Dk s fl ⟨p::ps,a,dr,nm,mi,lk⟩,AF (AU s.files a p).1],[]⟩⟩) ?_ ?_
 ·skip
  refine C3 ([(0,Dk s fl ⟨p::ps,a,dr,nm,mi,lk⟩)]) 17 (h:=Ac 0 (h:=Dx 1 (h:=Aw 2 (h:=Aw 3 (h:=AO 4 (h:=Ac 5 (h:=Dx 6 (h:=Aw 7 (h:=AO 8 (h:=Ac 9 (h:=?_)))))))))));refine GH 10 14 rfl rfl ?_ ?_
  ·refine AB (QG s.files a p hs.files) ?_;rintro r rfl;refine o_ (h:=?_);refine Ac 11 (h:=By 12 (h:=By 13 (h:=?_)));refine c_ 14 rfl (Dv (by repeat constructor) ?_);refine o_ (h:=?_);refine Bd 15 rfl (BY rfl rfl rfl rfl rfl rfl (by repeat constructor) (by repeat constructor) ?_);refine o_ (h:=BL 16 (h:=z_ (h:=?_)));refine AJ ?_
   first|(exfalso;first|contradiction|omega)|exact Ar 2 0 rfl rfl rfl rfl (by repeat (first|exact Sub.nil|refine As rfl rfl ?_|refine Ay ?_|refine Az rfl ?_|refine B0 rfl ?_|(apply Sub.of;(focus exact rfl);(focus exact LeA.of_eq (vb (by rfl)));(focus exact rfl))))
  refine Dv (by repeat constructor) ?_;refine o_ (h:=?_);refine c_ 10 rfl (AB (QG s.files a p hs.files) ?_);rintro r rfl;refine o_ (h:=Ac 11 (h:=By 12 (h:=By 13 (h:=?_))));refine Bd 15 rfl (BY rfl rfl rfl rfl rfl rfl (by repeat constructor) (by repeat constructor) ?_);refine o_ (h:=BL 16 (h:=z_ (h:=?_)));refine AJ ?_
  first|(exfalso;first|contradiction|omega)|exact Ar 2 0 rfl rfl rfl rfl (by repeat (first|exact Sub.nil|refine As rfl rfl ?_|refine Ay ?_|refine Az rfl ?_|refine B0 rfl ?_|(apply Sub.of;(focus exact rfl);(focus exact LeA.of_eq (vb (by rfl)));(focus exact rfl))))
 skip
 refine q_ (w_ (m_ (h:=Ao (h:=e_ (?_)))));refine A9 rfl (fun hb6=>?_) (fun hb6=>?_)
 ·have hc6:=bp hb6;refine q_ (w_ (m_ (h:=n_ (h:=Ba (h:=e_ (?_))))));refine A9 rfl (fun hb7=>?_) (fun hb7=>?_)
  ·have hc7:=bp hb7;have hps:ps≠[]:=fun e=>by rw[e]at hml hc7;simp at hc7
   refine w_ (a_ (h:=e_ (A4 (A8 (A8 (?_))))));refine Av none (h5:=(AZ _)) (h6:=⟨_,rfl,rfl, .inl ⟨2,by unfold Dj;rw[if_neg (by simp[hc1]),if_neg (by omega),if_neg hc3,if_neg hc4,if_neg (by simp[hc5]),if_pos hc6,if_pos hps],by decide,rfl,rfl⟩⟩)
  have hc7:=bp hb7;have hps:¬ps≠[]:=fun e=>e (Ct (by omega));refine AD (w_ (m_ (h:=m_ (h:=m_ (h:=m_ (h:=m_ (h:=m_ (h:=k_ (h:=f_ (h:=l_ (h:=m_ (h:=k_ (h:=f_ (h:=s_ (h:=k_ (h:=f_ (h:=s_ (h:=k_ (h:=f_ (h:=s_ (h:=k_ (h:=f_ (h:=s_ (h:=?_))))))))))))))))))))))));refine e_ (w_ (a_ (h:=e_ (A4 (A8 (?_))))));refine Av none (h5:=(AZ _)) (h6:=⟨_,rfl,rfl, .inr ⟨⟨ps,a,a,p,true,lk⟩,by unfold Dj;rw[if_neg (by simp[hc1]),if_neg (by omega),if_neg hc3,if_neg hc4,if_neg (by simp[hc5]),if_pos hc6,if_neg hps],rfl,rfl⟩⟩)
 have hc6:=bp hb6;refine AD (?_);refine Dt (⟨look [(0, .bp 0 0),(3, .v (.string p)),(4, .sl 1 (ps.map Ci) none),(5, .bp 1 0),(7, .bp 2 0)],⟨[Dk s fl ⟨p::ps,a,dr,nm,mi,lk⟩,AF (AU s.files a p).1,Ap (Au s.files (AU s.files a p).1)],[]⟩⟩) ?_ ?_
 ·skip
  refine C3 ([(0,Dk s fl ⟨p::ps,a,dr,nm,mi,lk⟩),(1,AF (AU s.files a p).1)]) 13 (h:=Ac 0 (h:=Dx 1 (h:=Aw 2 (h:=Aw 3 (h:=AO 4 (h:=AO 5 (h:=?_)))))));refine GH 6 10 rfl rfl ?_ ?_
  ·refine AB (GM s.files (AU s.files a p).1 hs.files) ?_;rintro r rfl;refine o_ (h:=?_);refine Ac 7 (h:=By 8 (h:=By 9 (h:=?_)));refine c_ 10 rfl (Dv (by repeat constructor) ?_);refine o_ (h:=?_);refine Bd 11 rfl (BY rfl rfl rfl rfl rfl rfl (by repeat constructor) (by repeat constructor) ?_);refine o_ (h:=BL 12 (h:=z_ (h:=?_)));refine AJ ?_
   first|(exfalso;first|contradiction|omega)|exact Ar 3 0 rfl rfl rfl rfl (by repeat (first|exact Sub.nil|refine As rfl rfl ?_|refine Ay ?_|refine Az rfl ?_|refine B0 rfl ?_|(apply Sub.of;(focus exact rfl);(focus exact LeA.of_eq (vb (by rfl)));(focus exact rfl))))
  refine Dv (by repeat constructor) ?_;refine o_ (h:=?_);refine c_ 6 rfl (AB (GM s.files (AU s.files a p).1 hs.files) ?_);rintro r rfl;refine o_ (h:=Ac 7 (h:=By 8 (h:=By 9 (h:=?_))));refine Bd 11 rfl (BY rfl rfl rfl rfl rfl rfl (by repeat constructor) (by repeat constructor) ?_);refine o_ (h:=BL 12 (h:=z_ (h:=?_)));refine AJ ?_
  first|(exfalso;first|contradiction|omega)|exact Ar 3 0 rfl rfl rfl rfl (by repeat (first|exact Sub.nil|refine As rfl rfl ?_|refine Ay ?_|refine Az rfl ?_|refine B0 rfl ?_|(apply Sub.of;(focus exact rfl);(focus exact LeA.of_eq (vb (by rfl)));(focus exact rfl))))
 skip
 refine q_ (?_);refine Dt (⟨look [(0, .bp 0 0),(3, .v (.string p)),(4, .sl 1 (ps.map Ci) none),(5, .bp 1 0),(7, .bp 2 0),(122, .v (.bool (decide ((Au s.files (AU s.files a p).1).kind=3)&&(decide (0<((ps.map Ci).length:Int))||fl))))],⟨[Dk s fl ⟨p::ps,a,dr,nm,mi,lk⟩,AF (AU s.files a p).1,Ap (Au s.files (AU s.files a p).1)],[]⟩⟩) ?_ ?_
 ·skip
  refine AR (f_ (h:=l_ (h:=AK (h:=m_ (h:=?_)))));refine AT true rfl rfl (fun hb8=>?_) (fun hb8=>?_)
  ·have hc8:=bp hb8;refine m_ (h:=n_ (h:=Ba (h:=m_ (h:=?_))));refine AT false rfl rfl (fun hb9=>?_) (fun hb9=>?_)
   ·have hc9:=bp hb9;refine A3 (h:=A3 (h:=A3 (h:=A3 (h:=AA (h:=AA (h:=AP (?_)))))));refine AJ ?_
    first|(exfalso;first|contradiction|omega)|exact Ar 3 0 rfl rfl rfl rfl (by repeat (first|exact Sub.nil|refine As rfl rfl ?_|refine Ay ?_|refine Az rfl ?_|refine B0 rfl ?_|(apply Sub.of;(focus exact rfl);(focus exact LeA.of_eq (vb (by first|(rw[hb8];rfl)|(rw[hb8,hb9];rfl))));(focus exact rfl))))
   have hc9:=bp hb9;refine m_ (h:=k_ (h:=f_ (h:=l_ (h:=AE (h:=AA (h:=AP (?_)))))));refine AJ ?_
   first|(exfalso;first|contradiction|omega)|exact Ar 3 0 rfl rfl rfl rfl (by repeat (first|exact Sub.nil|refine As rfl rfl ?_|refine Ay ?_|refine Az rfl ?_|refine B0 rfl ?_|(apply Sub.of;(focus exact rfl);(focus exact LeA.of_eq (vb (by first|(rw[hb8];rfl)|(rw[hb8,hb9];rfl))));(focus exact rfl))))
  have hc8:=bp hb8;refine A3 (h:=A3 (h:=A3 (h:=A3 (h:=AW (h:=AW (h:=AW (h:=AW (h:=A3 (h:=AE (h:=AP (?_)))))))))));refine AJ ?_
  first|(exfalso;first|contradiction|omega)|exact Ar 3 0 rfl rfl rfl rfl (by repeat (first|exact Sub.nil|refine As rfl rfl ?_|refine Ay ?_|refine Az rfl ?_|refine B0 rfl ?_|(apply Sub.of;(focus exact rfl);(focus exact LeA.of_eq (vb (by first|(rw[hb8];rfl)|(rw[hb8,hb9];rfl))));(focus exact rfl))))
 skip
 refine A9 rfl (fun hb10=>?_) (fun hb10=>?_)
 ·have hc10:=bp hb10
  have hlk:(Au s.files (AU s.files a p).1).kind=3∧(ps≠[]∨fl=true):=by
   simp only[Bool.and_eq_true,Bool.or_eq_true,decide_eq_true_eq]at hc10;exact⟨hc10.1,hc10.2.imp (fun h e=>by rw[e]at h;simp at h) id⟩
  refine w_ (m_ (h:=f_ (h:=l_ (h:=m_ (h:=?_)))));refine A6 rfl (ON 0 rfl (by repeat (first|exact ArgsB.nil|refine ArgsB.cons _ _ _ _ _ rfl rfl ?_)) rfl rfl (cA s fl ⟨p::ps,a,dr,nm,mi,lk⟩ (Au s.files (AU s.files a p).1).target ps hs h8 (by omega) hrl) ?_);rintro r row2 (⟨h9,rfl,rfl⟩|⟨h9,rfl,rfl⟩)
  ·refine⟨Na _ _ _,rfl,_,(by repeat constructor),?_⟩;refine a_ (h:=e_ (A4 (A8 (?_))));refine Av none (h5:=(AZ _)) (h6:=⟨_,rfl,rfl, .inl ⟨40,by unfold Dj;rw[if_neg (by simp[hc1]),if_neg (by omega),if_neg hc3,if_neg hc4,if_neg (by simp[hc5]),if_neg (by simp[hc6]),if_pos hlk,if_pos h9],by decide,rfl,rfl⟩⟩)
  refine⟨Na _ _ _,rfl,_,(by repeat constructor),?_⟩;refine a_ (h:=e_ (A4 (A8 (?_))));refine Av none (h5:=(AZ _)) (h6:=⟨_,rfl,rfl, .inr ⟨NZ s (Au s.files (AU s.files a p).1).target ps ⟨p::ps,a,dr,nm,mi,lk⟩,by unfold Dj;rw[if_neg (by simp[hc1]),if_neg (by omega),if_neg hc3,if_neg hc4,if_neg (by simp[hc5]),if_neg (by simp[hc6]),if_pos hlk,if_neg h9];rfl,rfl,rfl⟩⟩)
 have hc10:=bp hb10
 have hlk:¬((Au s.files (AU s.files a p).1).kind=3∧(ps≠[]∨fl=true)):=fun h=>by
  rw[decide_eq_true h.1,Bool.true_and,Bool.or_eq_false_iff]at hc10;rcases h.2 with e|e
  ·exact e (Ct (by have:=of_decide_eq_false hc10.1;omega))
  rw[hc10.2]at e;cases e
 refine AD (w_ (m_ (h:=m_ (h:=m_ (h:=m_ (h:=m_ (h:=k_ (h:=f_ (h:=l_ (h:=m_ (h:=k_ (h:=f_ (h:=s_ (h:=k_ (h:=f_ (h:=s_ (h:=k_ (h:=f_ (h:=s_ (h:=e_ (q_ (?_))))))))))))))))))))));refine Jk (fun h=>∃x y r,h.bx=[[.sl 2 (s.files.map Bo) none, .sl 3 (s.mounts.map Cu) none, .sl 1 (ps.map Ci) none,x,y, .v (.int .i64 a.1), .v (.int .i64 a.2), .v (.string p), .v (.bool mi), .v (.bool fl), .v (.int .i64 (lk:Int))],AF (AU s.files a p).1]++r) 10 (by kernel_rfl) ?_;refine BO (i:=0) rfl rfl (by kernel_rfl) (by first|rfl|exact AQ rfl rfl (BC ‹_›)|exact AQ rfl rfl (BD ‹_›)|exact AQ rfl rfl (by simp[*])) (fun h0 hS=>EK rfl ⟨rfl,rfl⟩) ⟨_,_,_,rfl⟩ ?_;refine BO (i:=1) rfl rfl (by kernel_rfl) (by first|rfl|exact AQ rfl rfl (BC ‹_›)|exact AQ rfl rfl (BD ‹_›)|exact AQ rfl rfl (by simp[*])) (fun h0 hS=>EK rfl ⟨rfl,rfl⟩) ⟨_,_,_,rfl⟩ ?_
 first|refine BO (i:=2) rfl rfl (by kernel_rfl) (by first|rfl|exact AQ rfl rfl (BC ‹_›)|exact AQ rfl rfl (BD ‹_›)|exact AQ rfl rfl (by simp[*])) (fun h0 hS=>G9 rfl ⟨rfl,rfl⟩) ⟨_,_,_,rfl⟩ ?_|refine BO (i:=2) rfl rfl (by kernel_rfl) (by first|rfl|exact AQ rfl rfl (BC ‹_›)|exact AQ rfl rfl (BD ‹_›)|exact AQ rfl rfl (by simp[*])) (fun h0 hS=>GA rfl ⟨rfl,rfl⟩) ⟨_,_,_,rfl⟩ ?_
 first|refine BO (i:=3) rfl rfl (by kernel_rfl) (by first|rfl|exact AQ rfl rfl (BC ‹_›)|exact AQ rfl rfl (BD ‹_›)|exact AQ rfl rfl (by simp[*])) (fun h0 hS=>E0 rfl ⟨rfl,rfl⟩) ⟨_,_,_,rfl⟩ ?_|refine BO (i:=3) rfl rfl (by kernel_rfl) (by first|rfl|exact AQ rfl rfl (BC ‹_›)|exact AQ rfl rfl (BD ‹_›)|exact AQ rfl rfl (by simp[*])) (fun h0 hS=>GB rfl ⟨rfl,rfl⟩) ⟨_,_,_,rfl⟩ ?_
 first|refine BO (i:=4) rfl rfl (by kernel_rfl) (by first|rfl|exact AQ rfl rfl (BC ‹_›)|exact AQ rfl rfl (BD ‹_›)|exact AQ rfl rfl (by simp[*])) (fun h0 hS=>by obtain⟨x,y,r,e⟩:=hS;exact EY (row:=[.sl 2 (s.files.map Bo) none, .sl 3 (s.mounts.map Cu) none, .sl 1 (ps.map Ci) none,x,y, .v (.int .i64 a.1), .v (.int .i64 a.2), .v (.string p), .v (.bool mi), .v (.bool fl), .v (.int .i64 (lk:Int))]) rfl (by rw[e];rfl) rfl (show _=AV.agg (Aj s)∧_ from⟨rfl,rfl⟩)) ⟨_,_,_,rfl⟩ ?_|refine BO (i:=4) rfl rfl (by kernel_rfl) (by first|rfl|exact AQ rfl rfl (BC ‹_›)|exact AQ rfl rfl (BD ‹_›)|exact AQ rfl rfl (by simp[*])) (fun h0 hS=>by obtain⟨x,y,r,e⟩:=hS;exact F2 (row:=AF (AU s.files a p).1) rfl (by rw[e];rfl) rfl ⟨rfl,rfl⟩) ⟨_,_,_,rfl⟩ ?_|refine BO (i:=4) rfl rfl (by kernel_rfl) (by first|rfl|exact AQ rfl rfl (BC ‹_›)|exact AQ rfl rfl (BD ‹_›)|exact AQ rfl rfl (by simp[*])) (fun h0 hS=>Be rfl rfl rfl ⟨rfl,rfl⟩) ⟨_,_,_,rfl⟩ ?_|refine BO (i:=4) rfl rfl (by kernel_rfl) (by first|rfl|exact AQ rfl rfl (BC ‹_›)|exact AQ rfl rfl (BD ‹_›)|exact AQ rfl rfl (by simp[*])) (fun h0 hS=>F2 rfl rfl rfl ⟨rfl,rfl⟩) ⟨_,_,_,rfl⟩ ?_|refine BO (i:=4) rfl rfl (by kernel_rfl) (by first|rfl|exact AQ rfl rfl (BC ‹_›)|exact AQ rfl rfl (BD ‹_›)|exact AQ rfl rfl (by simp[*])) (fun h0 hS=>GC rfl rfl ⟨rfl,rfl⟩) ⟨_,_,_,rfl⟩ ?_|refine BO (i:=4) rfl rfl (by kernel_rfl) (by first|rfl|exact AQ rfl rfl (BC ‹_›)|exact AQ rfl rfl (BD ‹_›)|exact AQ rfl rfl (by simp[*])) (fun h0 hS=>HG rfl rfl ⟨rfl,rfl⟩) ⟨_,_,_,rfl⟩ ?_|refine BO (i:=4) rfl rfl (by kernel_rfl) (by first|rfl|exact AQ rfl rfl (BC ‹_›)|exact AQ rfl rfl (BD ‹_›)|exact AQ rfl rfl (by simp[*])) (fun h0 hS=>EY rfl rfl rfl ⟨rfl,rfl⟩) ⟨_,_,_,rfl⟩ ?_|refine BO (i:=4) rfl rfl (by kernel_rfl) (by first|rfl|exact AQ rfl rfl (BC ‹_›)|exact AQ rfl rfl (BD ‹_›)|exact AQ rfl rfl (by simp[*])) (fun h0 hS=>Gd rfl rfl ⟨rfl,rfl⟩) ⟨_,_,_,rfl⟩ ?_
 first|refine BO (i:=5) rfl rfl (by kernel_rfl) (by first|rfl|exact AQ rfl rfl (BC ‹_›)|exact AQ rfl rfl (BD ‹_›)|exact AQ rfl rfl (by simp[*])) (fun h0 hS=>by obtain⟨x,y,r,e⟩:=hS;exact EY (row:=[.sl 2 (s.files.map Bo) none, .sl 3 (s.mounts.map Cu) none, .sl 1 (ps.map Ci) none,x,y, .v (.int .i64 a.1), .v (.int .i64 a.2), .v (.string p), .v (.bool mi), .v (.bool fl), .v (.int .i64 (lk:Int))]) rfl (by rw[e];rfl) rfl (show _=AV.agg (Aj s)∧_ from⟨rfl,rfl⟩)) ⟨_,_,_,rfl⟩ ?_|refine BO (i:=5) rfl rfl (by kernel_rfl) (by first|rfl|exact AQ rfl rfl (BC ‹_›)|exact AQ rfl rfl (BD ‹_›)|exact AQ rfl rfl (by simp[*])) (fun h0 hS=>by obtain⟨x,y,r,e⟩:=hS;exact F2 (row:=AF (AU s.files a p).1) rfl (by rw[e];rfl) rfl ⟨rfl,rfl⟩) ⟨_,_,_,rfl⟩ ?_|refine BO (i:=5) rfl rfl (by kernel_rfl) (by first|rfl|exact AQ rfl rfl (BC ‹_›)|exact AQ rfl rfl (BD ‹_›)|exact AQ rfl rfl (by simp[*])) (fun h0 hS=>F2 rfl rfl rfl ⟨rfl,rfl⟩) ⟨_,_,_,rfl⟩ ?_
 refine c_ 6 rfl (AB (Ov s (AU s.files a p).1 hs) ?_);rintro r rfl;refine⟨.inr ⟨_,_,_,rfl⟩,?_⟩
 first|refine BO (i:=7) rfl rfl (by kernel_rfl) (by first|rfl|exact AQ rfl rfl (BC ‹_›)|exact AQ rfl rfl (BD ‹_›)|exact AQ rfl rfl (by simp[*])) (fun h0 hS=>G9 rfl ⟨rfl,rfl⟩) ⟨_,_,_,rfl⟩ ?_|refine BO (i:=7) rfl rfl (by kernel_rfl) (by first|rfl|exact AQ rfl rfl (BC ‹_›)|exact AQ rfl rfl (BD ‹_›)|exact AQ rfl rfl (by simp[*])) (fun h0 hS=>GA rfl ⟨rfl,rfl⟩) ⟨_,_,_,rfl⟩ ?_
 first|refine BO (i:=8) rfl rfl (by kernel_rfl) (by first|rfl|exact AQ rfl rfl (BC ‹_›)|exact AQ rfl rfl (BD ‹_›)|exact AQ rfl rfl (by simp[*])) (fun h0 hS=>E0 rfl ⟨rfl,rfl⟩) ⟨_,_,_,rfl⟩ ?_|refine BO (i:=8) rfl rfl (by kernel_rfl) (by first|rfl|exact AQ rfl rfl (BC ‹_›)|exact AQ rfl rfl (BD ‹_›)|exact AQ rfl rfl (by simp[*])) (fun h0 hS=>GB rfl ⟨rfl,rfl⟩) ⟨_,_,_,rfl⟩ ?_
 refine Bd 9 rfl (BY rfl rfl rfl rfl rfl rfl (by repeat constructor) (by repeat constructor) ?_);refine⟨.inr ⟨_,_,_,rfl⟩,?_⟩;refine z_ (h:=t_ (w_ (a_ (h:=e_ (A4 (?_))))));refine Av none (h5:=(AZ _)) (h6:=⟨_,rfl,rfl, .inr ⟨⟨ps,Cd s s.mounts.length (AU s.files a p).1,a,p,mi,lk⟩,by unfold Dj;rw[if_neg (by simp[hc1]),if_neg (by omega),if_neg hc3,if_neg hc4,if_neg (by simp[hc5]),if_neg (by simp[hc6]),if_neg hlk],rfl,rfl⟩⟩)
end
theorem cC{s:Spc}(hv:SpcV s):Ax s.files (Dd s)=true:=(Q4 ((UG hv _).1 (aF hv (aB hv (Ty hv (Int.le_refl 0) (by have:=hv.pos;omega))))).1.1).1
theorem cF{s:Spc}(fl:Bool){p:AM}{ps:List AM}{w w':Wk}(hn:w.name.size≤12)(h:Dj s fl p ps w= .inr w'):w'.name.size≤12:=by
 unfold Dj at h;split at h
 ·cases h
 split at h
 ·cases h
 rename_i h2;split at h
 ·injection h with h;subst h;exact BR _
 split at h
 ·injection h with h;subst h;exact BR _
 split at h
 ·cases h
 split at h
 ·split at h
  ·cases h
  injection h with h;subst h;exact Nat.le_of_not_lt h2
 split at h
 ·split at h
  ·cases h
  injection h with h;subst h;show ByteArray.size (if _ then _ else _)≤12;split
  ·exact BR _
  exact hn
 injection h with h;subst h;exact Nat.le_of_not_lt h2
theorem QJ{s:Spc}(hv:FlsV s.files)(fl:Bool){p:AM}{ps:List AM}{w w':Wk}(hl:w.links≤8)(h:Dj s fl p ps w= .inr w'):w'.links≤8∧(8 - w'.links) * 200+w'.ps.length<(8 - w.links) * 200+(ps.length+1):=by
 unfold Dj at h;split at h
 ·cases h
 split at h
 ·cases h
 split at h
 ·injection h with h;subst h;exact⟨hl,by simp only;omega⟩
 split at h
 ·injection h with h;subst h;exact⟨hl,by simp only;omega⟩
 split at h
 ·cases h
 split at h
 ·split at h
  ·cases h
  injection h with h;subst h;exact⟨hl,by simp only;omega⟩
 split at h
 ·split at h
  ·cases h
  rename_i h9;injection h with h;subst h;have ht:=LZ hv (AU s.files w.at_ p).1;have hs:=KO (Au s.files (AU s.files w.at_ p).1).target;refine⟨by simp only;omega,?_⟩;simp only[List.length_append]
  have:(8 - w.links) * 200=(8 - (w.links+1)) * 200+200:=by
   rw[show 8 - w.links=(8 - (w.links+1))+1 by omega,Nat.add_mul]
  omega
 injection h with h;subst h;exact⟨hl,by simp only;omega⟩
theorem UR{s:Spc}{start:AG}{p:AM}{fl:Bool}(h1:¬p=⟨#[]⟩)(h2:128<p.size):Cr s start p fl=(DN,36):=by unfold Cr;rw[if_neg h1,if_pos h2]
section
variable {s:Spc}{start a:AG}{p:AM}{fl:Bool}(h1:¬p=⟨#[]⟩)(h2:¬128<p.size)(ha:(if Cq p=true then Dd s else start)=a)
include h1 h2 ha
theorem US(hd:Ax s.files a=false):Cr s start p fl=(DN,2):=by
 unfold Cr;rw[if_neg h1,if_neg h2,ha,if_pos hd]
variable (hd:Ax s.files a=true)
include hd
theorem KQ{e:Int}{τ:Lk}(h:DV s (fl||BJ p) (FM (CZ p) a)=(e,τ))(he:e≠0):Cr s start p fl=(DN,e):=by
 unfold Cr;rw[if_neg h1,if_neg h2,ha,if_neg (by simp[hd]),h,if_pos he]
theorem UT{τ:Lk}(h:DV s (fl||BJ p) (FM (CZ p) a)=(0,τ))(hs:BJ p=true∧τ.ex=true∧Ax s.files τ.file=false):Cr s start p fl=(DN,20):=by
 unfold Cr;rw[if_neg h1,if_neg h2,ha,if_neg (by simp[hd]),h,if_neg (by simp),if_pos hs]
theorem Nb{τ:Lk}(h:DV s (fl||BJ p) (FM (CZ p) a)=(0,τ))(hs:¬(BJ p=true∧τ.ex=true∧Ax s.files τ.file=false)):Cr s start p fl=(G4 s (BJ p) τ,0):=by
 unfold Cr;rw[if_neg h1,if_neg h2,ha,if_neg (by simp[hd]),h,if_neg (by simp),if_neg hs]
end
theorem cG(ps:List AM)(a d:AG)(hd:ps=[]→True):Sim ⟨ps,a,d,⟨#[]⟩,false,0⟩ (FM ps a):=by
 have _:=hd;exact⟨rfl,rfl,rfl,fun _=>rfl,fun h=>(by cases h),fun _ _=>⟨fun _=>⟨rfl,rfl⟩,fun h=>absurd rfl h⟩⟩
def Nc(s:Spc)(F:Bool)(σ0:Lk)(w:Wk):Prop:=w.links≤8∧w.name.size≤12∧∃σ,Sim w σ∧DV s F σ=DV s F σ0
theorem UU{s:Spc}(hv:SpcV s){F:Bool}{σ0:Lk}{w:Wk}{p:AM}{ps:List AM}(hps:w.ps=p::ps)(h:Nc s F σ0 w):(∀e,Dj s F p ps w= .inl e→DV s F σ0=(e,NU))∧∀w',Dj s F p ps w= .inr w'→Nc s F σ0 w':=by
 obtain⟨h8,hn,σ,hS,hT⟩:=h
 have hm:w.missing=false:=by
  cases hm:w.missing with
  |false=>rfl
  |true=>have:=(hS.gone hm).2.1;rw[hps]at this;cases this
 have h8σ:σ.links≤8:=by rw[←hS.links];exact h8
 have hc:=U1 hv.files (fl:=F) h8σ (hS.ps.symm.trans hps);rcases aQ hv F (p:=p) (ps:=ps) hS hm with⟨e,q1,q2⟩|⟨w1,τ,q1,q2,q3⟩
 ·refine⟨fun e' he=>?_,fun w' hw=>by rw[q1]at hw;cases hw⟩;rw[q1]at he;injection he with he;subst he;rw[←hT,hc,q2]
 refine⟨fun e' he=>by(rw[q1]at he;cases he),fun w' hw=>?_⟩;have k1:=QJ hv.files F h8 hw;have k2:=cF F hn hw;rw[q1]at hw;injection hw with hw;subst hw;refine⟨k1.1,k2,τ,q3,?_⟩;rw[←hT,hc,q2]
theorem cH{s:Spc}(hv:SpcV s){F:Bool}{σ0:Lk}{w:Wk}(hps:w.ps=[])(h:Nc s F σ0 w):∃σ,DV s F σ0=(0,σ)∧σ.ex= !w.missing∧(w.missing=false→σ.file=w.at_)∧∀sl,FO s sl w=G4 s sl σ:=by
 obtain⟨h8,hn,σ,hS,hT⟩:=h;exact⟨σ,by rw[←hT];exact Q7 (hS.ps.symm.trans hps),hS.ex,fun hm=>(hS.here hm).symm,fun sl=>aR hv hS hps⟩
section
theorem cJ(s:Spc)(start:AG)(p:AM)(fl:Bool)(hs:SpcN s)(hv:SpcV s)(hp:p.size≤1000000):AFn prog 184 [.agg (Aj s), .agg (AF start), .v (.string p), .v (.bool fl)] (fun r=>r= .tup [.agg (Dc (Cr s start p fl).1), .v (.int .i64 (Cr s start p fl).2)]):=by
 have hw:=Q0 hv;have hri:=cC hv;refine enter Tryz.func184 rfl rfl rfl rfl rfl 0 rfl ?_;refine w_ (b_ (h:=b_ (h:=Aa (h:=a_ (h:=e_ (q_ (Ab (w_ (m_ (h:=AK (h:=a_ (h:=e_ (?_)))))))))))));refine A9 rfl (fun hb1=>?_) (fun hb1=>?_)
 ·have hc1:=bp hb1;refine w_ (AX (h:=s_ (h:=a_ (h:=e_ (A4 (AN (A8 (?_))))))));refine A7 ?_;rw[show Cr s start p fl=(DN,2) from if_pos hc1];rfl
 have hc1:=bp hb1;refine w_ (m_ (h:=n_ (h:=Ba (h:=a_ (h:=e_ (?_))))));refine A9 rfl (fun hb2=>?_) (fun hb2=>?_)
 ·have hc2:=bp hb2;refine w_ (AX (h:=s_ (h:=a_ (h:=e_ (A4 (AN (A8 (?_))))))));refine A7 ?_;rw[UR hc1 (by omega)];rfl
 have hc2:=bp hb2;refine Aq (Ai (t_ (w_ (m_ (h:=?_)))));refine A6 rfl (AB (UO p (by omega)) ?_);rintro r rfl;refine m_ (h:=x_ (h:=x_ (h:=x_ (h:=a_ (h:=a_ (h:=a_ (h:=e_ (?_))))))));refine Bx (fun t=>t=⟨look [(2, .v (.string p)),(4, .bp 0 0),(5, .bp 1 0),(8, .bp 2 0),(11, .v (.bool (Cq p))),(12, .v (.bool (BJ p))),(13, .bp 3 0)],⟨[Aj s,AF start,Dc DN,Dk s (fl||BJ p) ⟨CZ p,start,(0,0),⟨#[]⟩,false,0⟩],[]⟩⟩) ?_ ?_
 ·skip
  refine AR (l_ (h:=m_ (h:=l_ (h:=m_ (h:=m_ (h:=?_))))));refine AT false rfl rfl (fun hb3=>?_) (fun hb3=>?_)
  ·have hc3:=bp hb3;refine A3 (h:=AA (h:=AX (h:=Aa (h:=s_ (h:=AP (?_))))));refine AJ ?_
   first|(rw[hb3];exact⟨_,rfl,(wk 4 0)⟩)|exact⟨_,rfl,(wk 4 0)⟩
  have hc3:=bp hb3;refine m_ (h:=AE (h:=AX (h:=Aa (h:=s_ (h:=AP (?_))))));refine AJ ?_
  first|(rw[hb3];exact⟨_,rfl,(wk 4 0)⟩)|exact⟨_,rfl,(wk 4 0)⟩
 rintro t rfl;refine Bx (fun t=>∃a,(if Cq p=true then Dd s else start)=a∧Ax s.files a=true∧t=⟨look [(4, .bp 0 0),(8, .bp 2 0),(12, .v (.bool (BJ p))),(13, .bp 3 0)],⟨[Aj s,AF start,Dc DN,Dk s (fl||BJ p) ⟨CZ p,a,(0,0),⟨#[]⟩,false,0⟩],[]⟩⟩) ?_ ?_
 ·skip
  refine w_ (m_ (h:=e_ (?_)));refine A9 rfl (fun hb4=>?_) (fun hb4=>?_)
  ·have hc4:=bp hb4;refine AR (l_ (h:=?_));refine A6 rfl (AB (UQ s hs.b) ?_);rintro r rfl;refine f_ (h:=s_ (h:=AP (?_)));refine AJ ?_
   first|exact⟨_,⟨Dd s,if_pos hc4,hri,rfl⟩,(wk 4 0)⟩|exact⟨_,⟨start,if_neg (by simp[hc4]),by simpa using hc5,rfl⟩,(wk 4 0)⟩
  have hc4:=bp hb4;refine w_ (?_);refine A6 rfl (Fr 1 rfl (.cons _ _ _ _ _ rfl (AZ _) .nil) (QH s (fl||BJ p) ⟨CZ p,start,(0,0),⟨#[]⟩,false,0⟩ hs.b) ?_);rintro r rfl;refine⟨rfl,?_⟩;refine B7 (h:=e_ (?_));refine A9 rfl (fun hb5=>?_) (fun hb5=>?_)
  ·have hc5:=bp hb5;refine w_ (AX (h:=s_ (h:=a_ (h:=e_ (A4 (A8 (?_)))))));refine A7 ?_;rw[US hc1 (by omega) (if_neg (by simp[hc4])) (by simpa using hc5)];rfl
  have hc5:=bp hb5;refine Aq (?_);refine AJ ?_
  first|exact⟨_,⟨Dd s,if_pos hc4,hri,rfl⟩,(wk 4 0)⟩|exact⟨_,⟨start,if_neg (by simp[hc4]),by simpa using hc5,rfl⟩,(wk 4 0)⟩
 rintro t ⟨a,ha,had,rfl⟩;refine q_ (Ab (?_));refine BT (fun m t=>∃w,Nc s (fl||BJ p) (FM (CZ p) a) w∧m=(8 - w.links) * 200+w.ps.length∧m≤1600+(p.size+1)∧t=⟨look [(4, .bp 0 0),(8, .bp 2 0),(12, .v (.bool (BJ p))),(13, .bp 3 0)],⟨[Aj s,AF start,Dc DN,Dk s (fl||BJ p) w],[]⟩⟩) ((8 - 0) * 200+(CZ p).length) ((wk 4 0)) (⟨_,⟨BR _,BR _,_,cG (CZ p) a (0,0) (fun _=>trivial),rfl⟩,rfl,by have:=KO p;omega,rfl⟩) ?_;rintro m t ⟨w,hR,rfl,hm,rfl⟩;have hml:(w.ps.map Ci).length=w.ps.length:=by simp
 refine q_ (w_ (f_ (h:=l_ (h:=n_ (h:=Ba (h:=e_ (?_)))))));refine A9 rfl (fun hb6=>?_) (fun hb6=>?_)
 ·have hc6:=bp hb6
  obtain⟨q,qs,hqs⟩:∃q qs,w.ps=q::qs:=by
   cases hq:w.ps with
   |nil=>rw[hq]at hml hc6;simp at hc6
   |cons q qs=>exact⟨q,qs,rfl⟩
  have hql:w.ps.length=qs.length+1:=by rw[hqs];rfl
  refine AD (Ab (w_ (?_)));refine A6 rfl (ON 3 rfl (by repeat (first|exact ArgsB.nil|refine ArgsB.cons _ _ _ _ _ rfl rfl ?_)) rfl rfl (cB s (fl||BJ p) w q qs hqs hs.b hv hR.1 (by omega)) ?_);rintro r row2 (⟨e,he,he0,rfl,rfl⟩|⟨w2,hw2,rfl,rfl⟩)
  ·refine⟨Na _ _ _,rfl,_,(by repeat constructor),?_⟩;refine a_ (h:=e_ (w_ (m_ (h:=Ao (h:=e_ (?_))))));refine A9 rfl (fun hb7=>?_) (fun hb7=>?_)
   ·have hc7:=bp hb7;refine w_ (AX (h:=m_ (h:=s_ (h:=a_ (h:=e_ (A4 (AN (A8 (AN (A8 (?_)))))))))));refine A7 ?_;rw[KQ hc1 (by omega) ha had ((UU hv hqs hR).1 e he) he0];rfl
   have hc7:=bp hb7;exact absurd hc7 he0
  refine⟨Na _ _ _,rfl,_,(by repeat constructor),?_⟩;refine a_ (h:=e_ (w_ (m_ (h:=Ao (h:=e_ (?_))))));refine A9 rfl (fun hb8=>?_) (fun hb8=>?_)
  ·have hc8:=bp hb8;exact absurd rfl hc8
  have hc8:=bp hb8;refine Aq (Ai (?_));refine AJ ?_;exact⟨(8 - w2.links) * 200+w2.ps.length,_,(by have:=(QJ hv.files _ hR.1 hw2).2;omega),⟨w2,(UU hv hqs hR).2 w2 hw2,rfl,by have:=(QJ hv.files _ hR.1 hw2).2;omega,rfl⟩,(wk 4 0)⟩
 have hc6:=bp hb6;have hps:w.ps=[]:=Ct (by omega);obtain⟨σ,hT,hσx,hσf,hσe⟩:=cH hv hps hR;refine BF (Ah (Ah (BG (t_ (q_ (?_))))));refine Dt (⟨look [(8, .bp 2 0),(12, .v (.bool (BJ p))),(13, .bp 3 0),(63, .v (.bool (BJ p&&(!w.missing&& !Ax s.files w.at_))))],⟨[Aj s,AF start,Dc DN,Dk s (fl||BJ p) w],[]⟩⟩) ?_ ?_
 ·skip
  refine AR (m_ (h:=m_ (h:=?_)));refine AT true rfl rfl (fun hb9=>?_) (fun hb9=>?_)
  ·have hc9:=bp hb9;refine f_ (h:=l_ (h:=B7 (h:=AA (h:=m_ (h:=?_)))));refine AT true rfl rfl (fun hb10=>?_) (fun hb10=>?_)
   ·have hc10:=bp hb10;refine B2 (Fr 1 rfl (.cons _ _ _ _ _ rfl (AZ _) .nil) (QH s (fl||BJ p) w hs.b) ?_);rintro r rfl;refine⟨rfl,?_⟩;refine B7 (h:=AA (h:=AP (?_)));refine AJ ?_
    first|(exfalso;first|contradiction|omega)|exact Ar 4 0 rfl rfl rfl rfl (by repeat (first|exact Sub.nil|refine As rfl rfl ?_|refine Ay ?_|refine Az rfl ?_|refine B0 rfl ?_|(apply Sub.of;(focus exact rfl);(focus exact LeA.of_eq (vb (by first|(rw[hb9];rfl)|(rw[hb9,hb10];rfl))));(focus exact rfl))))
   have hc10:=bp hb10;refine A3 (h:=A3 (h:=AE (h:=AP (?_))));refine AJ ?_
   first|(exfalso;first|contradiction|omega)|exact Ar 4 0 rfl rfl rfl rfl (by repeat (first|exact Sub.nil|refine As rfl rfl ?_|refine Ay ?_|refine Az rfl ?_|refine B0 rfl ?_|(apply Sub.of;(focus exact rfl);(focus exact LeA.of_eq (vb (by first|(rw[hb9];rfl)|(rw[hb9,hb10];rfl))));(focus exact rfl))))
  have hc9:=bp hb9;refine A3 (h:=A3 (h:=A3 (h:=AE (h:=m_ (h:=A3 (h:=A3 (h:=AE (h:=AP (?_)))))))));refine AJ ?_
  first|(exfalso;first|contradiction|omega)|exact Ar 4 0 rfl rfl rfl rfl (by repeat (first|exact Sub.nil|refine As rfl rfl ?_|refine Ay ?_|refine Az rfl ?_|refine B0 rfl ?_|(apply Sub.of;(focus exact rfl);(focus exact LeA.of_eq (vb (by first|(rw[hb9];rfl)|(rw[hb9,hb10];rfl))));(focus exact rfl))))
 skip
 refine A9 rfl (fun hb11=>?_) (fun hb11=>?_)
 ·have hc11:=bp hb11;refine w_ (AX (h:=s_ (h:=a_ (h:=e_ (A4 (A8 (?_)))))));refine A7 ?_;rw[UT hc1 (by omega) ha had hT (by simp only[Bool.and_eq_true,Bool.not_eq_true']at hc11;exact⟨hc11.1,by rw[hσx,hc11.2.1];rfl,by rw[hσf hc11.2.1];exact hc11.2.2⟩)];rfl
 have hc11:=bp hb11;refine AD (w_ (m_ (h:=?_)));refine A6 rfl (Fr 1 rfl (.cons _ _ _ _ _ rfl (AZ _) (.cons _ _ _ _ _ rfl (AZ _) .nil)) (bZ s (fl||BJ p) (BJ p) w hs hw (by have:=hR.2.1;omega)) ?_);rintro r rfl;refine⟨rfl,?_⟩;refine s_ (h:=a_ (h:=e_ (A4 (?_))));refine A7 ?_
 rw[Nb hc1 (by omega) ha had hT (fun h=>by
  obtain⟨h1,h2,h3⟩:=h;rw[hσx]at h2;have hm2:w.missing=false:=by simpa using h2
  rw[hσf hm2]at h3;rw[h1,h2,h3]at hc11
  cases hc11),←hσe]
 rfl
end
section
theorem QK{s:Spc}(hs:SpcB s)(hv:SpcV s)(a:AG):AFn prog 193 [.agg (Aj s), .agg (AF a)] (fun r=>r= .agg (AF (Cd s s.mounts.length a))):=
 (Wf s a hs).mono fun r hr=>by rw[hr,ZE hv]
end
def Ll(σ:Lk):List AV:=Dc ⟨σ.dir,σ.name,σ.file,σ.ex,false,⟨#[]⟩⟩
theorem G6{s:Spc}(hv:FlsV s.files){F:Bool}{q:AM}{qs:List AM}{da:AG}{na:AM}{a:AG}{ea:Bool}{lk:Nat}(h8:lk≤8):(∀e,Cg s F q qs a lk= .inl e→DV s F ⟨q::qs,da,na,a,ea,lk⟩=(e,NU))∧∀τ,Cg s F q qs a lk= .inr τ→τ.links≤8∧DV s F ⟨q::qs,da,na,a,ea,lk⟩=DV s F τ∧EA τ<(8 - lk) * 200+(qs.length+1):=by
 have hc:=U1 hv (fl:=F) (σ:=⟨q::qs,da,na,a,ea,lk⟩) (p:=q) (ps:=qs) h8 rfl;refine⟨fun e he=>?_,fun τ hτ=>?_⟩
 ·rw[hc];simp only[he]
 obtain⟨h1,h2⟩:=Q6 hv h8 hτ;refine⟨h1,?_,h2⟩;rw[hc];simp only[hτ]
section
theorem UV(s:Spc)(hs:SpcB s)(hv:SpcV s):AFn prog 192 [.agg (Aj s)] (fun r=>r= .agg (AF (Dd s))):=by
 refine enter Tryz.func192 rfl rfl rfl rfl rfl 0 rfl ?_;refine w_ (b_ (h:=Aa (h:=e_ (w_ (l_ (h:=AX (h:=?_)))))));refine A6 rfl (AB (QK hs hv (0,1)) ?_);rintro r rfl;refine s_ (h:=e_ (A4 (?_)));refine A7 ?_;rfl
theorem cK(s:Spc)(start:AG)(p:AM)(fl:Bool)(hs:SpcN s)(hv:SpcV s)(hp:p.size≤100000):AFn prog 141 [.agg (Aj s), .agg (AF start), .v (.string p), .v (.bool fl)] (fun r=>r= .tup [.agg (Dc (Cr s start p fl).1), .v (.int .i64 (Cr s start p fl).2)]):=by
 have hw:=Q0 hv;have hsp:=KO p;refine enter Tryz.func141 rfl rfl rfl rfl rfl 0 rfl ?_;refine w_ (b_ (h:=b_ (h:=Aa (h:=a_ (h:=e_ (w_ (m_ (h:=?_))))))));refine A6 rfl (AB (Q2 p hp) ?_);rintro r ⟨ps,hps,rfl⟩;obtain rfl:=Q5 hps;clear hps;refine m_ (h:=x_ (h:=x_ (h:=x_ (h:=a_ (h:=a_ (h:=a_ (h:=e_ (q_ (w_ (m_ (h:=AK (h:=e_ (?_)))))))))))));refine A9 rfl (fun hb1=>?_) (fun hb1=>?_)
 ·have hc1:=bp hb1;refine w_ (AX (h:=s_ (h:=a_ (h:=e_ (A4 (A8 (?_)))))));refine A7 ?_;rw[show Cr s start p fl=(DN,2) from if_pos hc1];rfl
 have hc1:=bp hb1;refine AD (q_ (w_ (m_ (h:=n_ (h:=Ba (h:=e_ (?_)))))));refine A9 rfl (fun hb2=>?_) (fun hb2=>?_)
 ·have hc2:=bp hb2;refine w_ (AX (h:=s_ (h:=a_ (h:=e_ (A4 (A8 (?_)))))));refine A7 ?_;rw[UR hc1 (by omega)];rfl
 have hc2:=bp hb2;refine AD (w_ (l_ (h:=Aa (h:=s_ (h:=e_ (?_))))));refine Bx (fun t=>∃a,(if Cq p=true then Dd s else start)=a∧t=⟨look [(3, .v (.bool fl)),(4, .bp 0 0),(8, .bp 2 0),(10, .sl 1 ((CZ p).map Ci) none),(12, .v (.bool (BJ p))),(13, .bp 3 0)],⟨[Aj s,AF start,Dc DN,AF a],[]⟩⟩) ?_ ?_
 ·skip
  refine w_ (m_ (h:=e_ (?_)));refine A9 rfl (fun hb3=>?_) (fun hb3=>?_)
  ·have hc3:=bp hb3;refine AR (l_ (h:=?_));refine A6 rfl (AB (UV s hs.b hv) ?_);rintro r rfl;refine s_ (h:=AP (?_));refine AJ ?_
   first|exact⟨_,⟨Dd s,if_pos hc3,rfl⟩,(wk 4 0)⟩|exact⟨_,⟨start,if_neg (by simp[hc3]),rfl⟩,(wk 4 0)⟩
  have hc3:=bp hb3;refine Aq (?_);refine AJ ?_
  first|exact⟨_,⟨Dd s,if_pos hc3,rfl⟩,(wk 4 0)⟩|exact⟨_,⟨start,if_neg (by simp[hc3]),rfl⟩,(wk 4 0)⟩
 rintro t ⟨a0,ha,rfl⟩;refine q_ (w_ (f_ (h:=l_ (h:=l_ (h:=?_)))));refine A6 rfl (AB (Gl s.files a0 hs.b.files) ?_);rintro r rfl;refine B7 (h:=e_ (?_));refine A9 rfl (fun hb4=>?_) (fun hb4=>?_)
 ·have hc4:=bp hb4;refine w_ (AX (h:=s_ (h:=a_ (h:=e_ (A4 (A8 (?_)))))));refine A7 ?_;rw[US hc1 (by omega) ha (by simpa using hc4)];rfl
 have hc4:=bp hb4;have had:Ax s.files a0=true:=by simpa using hc4
 refine AD (w_ (l_ (h:=l_ (h:=AX (h:=Aa (h:=s_ (h:=e_ (w_ (a_ (h:=e_ (?_)))))))))));refine Bx (fun t=>∃(τ:Lk) (d:AG),DV s (fl||BJ p) (FM (CZ p) a0)=(0,τ)∧τ.name.size≤1000∧t=⟨look [(4, .bp 0 0),(8, .bp 2 0),(12, .v (.bool (BJ p))),(14, .bp 4 0)],⟨[Aj s,AF start,Dc DN,AF d,Ll τ],[]⟩⟩) ?_ ?_
 ·skip
  refine Ab (?_);refine BT (fun m t=>∃(σ:Lk) (d:AG),σ.links≤8∧σ.name.size≤12∧DV s (fl||BJ p) σ=DV s (fl||BJ p) (FM (CZ p) a0)∧m=EA σ∧m≤1729∧t=⟨look [(3, .v (.bool fl)),(4, .bp 0 0),(8, .bp 2 0),(10, .sl 1 (σ.ps.map Ci) none),(12, .v (.bool (BJ p))),(13, .bp 3 0),(14, .bp 4 0),(15, .v (.int .i64 (σ.links:Int)))],⟨[Aj s,AF start,Dc DN,AF d,Ll σ],[]⟩⟩) (EA (FM (CZ p) a0)) ((wk 5 0)) (⟨_,a0,BR _,BR _,rfl,rfl,by show(8 - 0) * 200+(CZ p).length≤1729;omega,rfl⟩) ?_;rintro m t ⟨⟨ps0,da,na,a,ea,lk⟩,d,h8,hna,hT,rfl,hm,rfl⟩;have hm:(8 - lk) * 200+ps0.length≤1729:=hm;have h8:lk≤8:=h8;have hml:(ps0.map Ci).length=ps0.length:=by simp
  refine q_ (w_ (m_ (h:=n_ (h:=Ba (h:=e_ (?_))))));refine A9 rfl (fun hb5=>?_) (fun hb5=>?_)
  ·have hc5:=bp hb5
   obtain⟨q,qs,hps⟩:∃q qs,ps0=q::qs:=by
    cases ps0 with
    |nil=>simp at hc5
    |cons q qs=>exact⟨q,qs,rfl⟩
   subst hps;have hml:(qs.map Ci).length=qs.length:=by simp
   have hmq:(8 - lk) * 200+(qs.length+1)≤1729:=hm;have htg:=LZ hv.files (AU s.files a q).1;have htp:=KO (Au s.files (AU s.files a q).1).target;refine AD (Ab (w_ (m_ (h:=?_))));refine A6 rfl (DX (n:=0) rfl rfl rfl rfl ?_);refine l_ (h:=a_ (h:=e_ (?_)));refine Dt (⟨look [(3, .v (.bool fl)),(4, .bp 0 0),(8, .bp 2 0),(10, .sl 1 (qs.map Ci) none),(12, .v (.bool (BJ p))),(13, .bp 3 0),(14, .bp 4 0),(15, .v (.int .i64 (lk:Int))),(16, .v (.string q))],⟨[Aj s,AF start,Dc DN,AF d,Ll ⟨q::qs,da,na,a,ea,lk⟩],[]⟩⟩) ?_ ?_
   ·skip
    refine AR (m_ (h:=?_));refine A6 rfl (Qx (l:=1) rfl rfl rfl (by simp) ?_);refine a_ (h:=AP (?_));refine AJ ?_
    first|(exfalso;first|contradiction|omega)|exact Ar 5 0 rfl rfl rfl rfl (by repeat (first|exact Sub.nil|refine As rfl rfl ?_|refine Ay ?_|refine Az rfl ?_|refine B0 rfl ?_|(apply Sub.of;(focus exact rfl);(focus exact LeA.of_eq (vb (by rfl)));(focus exact rfl))))
   skip
   refine w_ (f_ (h:=l_ (h:=s_ (h:=e_ (q_ (w_ (f_ (h:=l_ (h:=l_ (h:=?_))))))))));refine A6 rfl (AB (Gl s.files a hs.b.files) ?_);rintro r rfl;refine B7 (h:=e_ (?_));refine A9 rfl (fun hb6=>?_) (fun hb6=>?_)
   ·have hc6:=bp hb6;have hst:Cg s (fl||BJ p) q qs a lk= .inl 20:=by unfold Cg;rw[if_pos hc6]
    refine w_ (AX (h:=s_ (h:=a_ (h:=e_ (A4 (A8 (AN (A8 (AN (A8 (?_)))))))))));refine A7 ?_;rw[KQ hc1 (by omega) ha had (hT.symm.trans ((G6 (F:=fl||BJ p) (da:=da) (na:=na) (ea:=ea) hv.files h8).1 _ hst)) (by decide)];rfl
   have hc6:=bp hb6;refine AD (q_ (w_ (m_ (h:=n_ (h:=Ba (h:=e_ (?_)))))));refine A9 rfl (fun hb7=>?_) (fun hb7=>?_)
   ·have hc7:=bp hb7;have hst:Cg s (fl||BJ p) q qs a lk= .inl 36:=by unfold Cg;rw[if_neg (by simp[hc6]),if_pos (by omega)]
    refine w_ (AX (h:=s_ (h:=a_ (h:=e_ (A4 (A8 (AN (A8 (AN (A8 (?_)))))))))));refine A7 ?_;rw[KQ hc1 (by omega) ha had (hT.symm.trans ((G6 (F:=fl||BJ p) (da:=da) (na:=na) (ea:=ea) hv.files h8).1 _ hst)) (by decide)];rfl
   have hc7:=bp hb7;have hq12:q.size≤12:=by omega
   refine AD (q_ (w_ (m_ (h:=AK (h:=m_ (h:=?_))))));refine AT false rfl rfl (fun hb8=>?_) (fun hb8=>?_)
   ·have hc8:=bp hb8;refine A3 (h:=A3 (h:=AA (h:=e_ (B6 (h:=q_ (w_ (m_ (h:=AK (h:=e_ (?_))))))))));refine A9 rfl (fun hb9=>?_) (fun hb9=>?_)
    ·have hc9:=bp hb9;rw[hc8]at hc9;exact absurd hc9 (by decide)
    have hc9:=bp hb9;have hst:Cg s (fl||BJ p) q qs a lk= .inr ⟨qs,a,⟨#[]⟩,a,true,lk⟩:=by unfold Cg;rw[if_neg (by simp[hc6]),if_neg (by omega),if_pos hc8]
    refine AD (w_ (l_ (h:=l_ (h:=AX (h:=s_ (h:=e_ (BF (Ah (BG (?_))))))))));refine AJ ?_;obtain⟨g1,g2,g3⟩:=(G6 (F:=fl||BJ p) (da:=da) (na:=na) (ea:=ea) hv.files h8).2 _ hst;exact⟨_,_,g3,⟨_,_,g1,(by first|exact BR _|exact hq12),g2.symm.trans hT,rfl,Nat.le_trans (Nat.le_of_lt g3) hmq,rfl⟩,(by(try simp only[List.map_append]);exact Ar 5 0 rfl rfl rfl rfl ((by repeat (first|exact Sub.nil|refine As rfl rfl ?_|refine Ay ?_|refine Az rfl ?_|refine B0 rfl ?_))))⟩
   have hc8:=bp hb8;refine m_ (h:=AK (h:=AE (h:=e_ (?_))));refine A9 rfl (fun hb10=>?_) (fun hb10=>?_)
   ·have hc10:=bp hb10;refine q_ (w_ (m_ (h:=AK (h:=e_ (?_)))));refine A9 rfl (fun hb11=>?_) (fun hb11=>?_)
    ·have hc11:=bp hb11;have hst:Cg s (fl||BJ p) q qs a lk= .inr ⟨qs,Cd s s.mounts.length (DM s (s.mounts.length+1) a),⟨#[]⟩,Cd s s.mounts.length (DM s (s.mounts.length+1) a),true,lk⟩:=by unfold Cg;rw[if_neg (by simp[hc6]),if_neg (by omega),if_neg hc8,if_pos hc11]
     refine C3 ([(0,Aj s),(3,AF a)]) 5 (h:=AO 0 (h:=AO 1 (h:=AO 2 (h:=?_))));refine c_ 3 rfl (AB (ZU hs.b hv (s.mounts.length+1) a (by have:=ZC (s:=s) a.1;omega)) ?_);rintro r rfl;refine o_ (h:=?_);refine c_ 4 rfl (AB (QK hs.b hv (DM s (s.mounts.length+1) a)) ?_);rintro r rfl;refine o_ (h:=?_);refine Bd 5 rfl (BY rfl rfl rfl rfl rfl rfl (by repeat constructor) (by repeat constructor) ?_);refine o_ (h:=z_ (h:=t_ (w_ (l_ (h:=l_ (h:=AX (h:=s_ (h:=e_ (BF (Ah (BG (?_))))))))))));refine AJ ?_;obtain⟨g1,g2,g3⟩:=(G6 (F:=fl||BJ p) (da:=da) (na:=na) (ea:=ea) hv.files h8).2 _ hst;exact⟨_,_,g3,⟨_,_,g1,(by first|exact BR _|exact hq12),g2.symm.trans hT,rfl,Nat.le_trans (Nat.le_of_lt g3) hmq,rfl⟩,(by(try simp only[List.map_append]);exact Ar 5 0 rfl rfl rfl rfl ((by repeat (first|exact Sub.nil|refine As rfl rfl ?_|refine Ay ?_|refine Az rfl ?_|refine B0 rfl ?_))))⟩
    have hc11:=bp hb11;exact absurd hc10 hc11
   have hc10:=bp hb10;refine AD (w_ (f_ (h:=l_ (h:=l_ (h:=m_ (h:=?_))))));refine A6 rfl (AB (Hm s.files a q hs.b.files) ?_);rintro r rfl;refine m_ (h:=x_ (h:=x_ (h:=Aa (h:=s_ (h:=a_ (h:=e_ (q_ (w_ (m_ (h:=Ao (h:=e_ (?_))))))))))));refine A9 rfl (fun hb12=>?_) (fun hb12=>?_)
   ·have hc12:=bp hb12;refine q_ (w_ (m_ (h:=n_ (h:=Ba (h:=m_ (h:=?_))))));refine AT false rfl rfl (fun hb13=>?_) (fun hb13=>?_)
    ·have hc13:=bp hb13;have hne:qs≠[]:=fun e=>by rw[e]at hc13;simp at hc13
     have hst:Cg s (fl||BJ p) q qs a lk= .inl 2:=by unfold Cg;rw[if_neg (by simp[hc6]),if_neg (by omega),if_neg hc8,if_neg hc10,if_pos hc12,if_pos (.inl hne)]
     refine A3 (h:=A3 (h:=A3 (h:=AA (h:=e_ (B6 (h:=w_ (AX (h:=s_ (h:=a_ (h:=e_ (A4 (A8 (A8 (AN (A8 (AN (A8 (?_))))))))))))))))));refine A7 ?_;rw[KQ hc1 (by omega) ha had (hT.symm.trans ((G6 (F:=fl||BJ p) (da:=da) (na:=na) (ea:=ea) hv.files h8).1 _ hst)) (by decide)];rfl
    have hc13:=bp hb13;have hne:¬qs≠[]:=fun e=>e (Ct (by omega));refine m_ (h:=?_);refine B2 (AB (Oj q (by omega)) ?_);rintro r rfl;refine B7 (h:=AE (h:=e_ (?_)));refine A9 rfl (fun hb14=>?_) (fun hb14=>?_)
    ·have hc14:=bp hb14;have hst:Cg s (fl||BJ p) q qs a lk= .inl 2:=by unfold Cg;rw[if_neg (by simp[hc6]),if_neg (by omega),if_neg hc8,if_neg hc10,if_pos hc12,if_pos (.inr hc14)]
     refine w_ (AX (h:=s_ (h:=a_ (h:=e_ (A4 (A8 (A8 (AN (A8 (AN (A8 (?_))))))))))));refine A7 ?_;rw[KQ hc1 (by omega) ha had (hT.symm.trans ((G6 (F:=fl||BJ p) (da:=da) (na:=na) (ea:=ea) hv.files h8).1 _ hst)) (by decide)];rfl
    have hc14:=bp hb14;have hst:Cg s (fl||BJ p) q qs a lk= .inr ⟨[],a,q,(0,0),false,lk⟩:=by unfold Cg;rw[if_neg (by simp[hc6]),if_neg (by omega),if_neg hc8,if_neg hc10,if_pos hc12,if_neg (fun e=>e.elim hne (by simp[hc14]))]
    have hfin:=hT.symm.trans (((G6 (F:=fl||BJ p) (da:=da) (na:=na) (ea:=ea) hv.files h8).2 _ hst).2.1.trans (Q7 rfl));refine AD (w_ (l_ (h:=m_ (h:=AX (h:=s_ (h:=e_ (BF (Ah (KY rfl (Ah (BG (?_))))))))))));refine AJ ?_;exact⟨_,⟨_,_,hfin,(by first|exact Nat.le_trans hna (by decide)|exact Nat.le_trans hq12 (by decide)),rfl⟩,(wk 5 0)⟩
   have hc12:=bp hb12;refine AD (w_ (f_ (h:=l_ (h:=l_ (h:=?_)))));refine A6 rfl (AB (Ec s.files (AU s.files a q).1 hs.b.files) ?_);rintro r rfl;refine m_ (h:=x_ (h:=x_ (h:=Aa (h:=s_ (h:=a_ (h:=e_ (q_ (?_))))))));refine Dt (⟨look [(3, .v (.bool fl)),(4, .bp 0 0),(8, .bp 2 0),(10, .sl 1 (qs.map Ci) none),(12, .v (.bool (BJ p))),(13, .bp 3 0),(14, .bp 4 0),(15, .v (.int .i64 (lk:Int))),(16, .v (.string q)),(17, .bp 5 0),(19, .bp 6 0),(130, .v (.bool (decide ((Au s.files (AU s.files a q).1).kind=3)&&(decide (0<((qs.map Ci).length:Int))||(fl||BJ p)))))],⟨[Aj s,AF start,Dc DN,AF a,Ll ⟨q::qs,da,na,a,ea,lk⟩,AF (AU s.files a q).1,Ap (Au s.files (AU s.files a q).1)],[]⟩⟩) ?_ ?_
   ·skip
    refine AR (f_ (h:=l_ (h:=AK (h:=m_ (h:=?_)))));refine AT true rfl rfl (fun hb15=>?_) (fun hb15=>?_)
    ·have hc15:=bp hb15;refine m_ (h:=n_ (h:=Ba (h:=m_ (h:=?_))));refine AT false rfl rfl (fun hb16=>?_) (fun hb16=>?_)
     ·have hc16:=bp hb16;refine A3 (h:=AA (h:=m_ (h:=A3 (h:=AA (h:=AA (h:=AP (?_)))))));refine AJ ?_
      first|(exfalso;first|contradiction|omega)|exact Ar 7 0 rfl rfl rfl rfl (by repeat (first|exact Sub.nil|refine As rfl rfl ?_|refine Ay ?_|refine Az rfl ?_|refine B0 rfl ?_|(apply Sub.of;(focus exact rfl);(focus exact LeA.of_eq (vb (by first|(rw[hb15];rfl)|(rw[hb15,hb16];rfl)|(rw[hb15,hb16,hb17];rfl))));(focus exact rfl))))
     have hc16:=bp hb16;refine m_ (h:=AE (h:=m_ (h:=?_)));refine AT false rfl rfl (fun hb17=>?_) (fun hb17=>?_)
     ·have hc17:=bp hb17;refine A3 (h:=AA (h:=AA (h:=AP (?_))));refine AJ ?_
      first|(exfalso;first|contradiction|omega)|exact Ar 7 0 rfl rfl rfl rfl (by repeat (first|exact Sub.nil|refine As rfl rfl ?_|refine Ay ?_|refine Az rfl ?_|refine B0 rfl ?_|(apply Sub.of;(focus exact rfl);(focus exact LeA.of_eq (vb (by first|(rw[hb15];rfl)|(rw[hb15,hb16];rfl)|(rw[hb15,hb16,hb17];rfl))));(focus exact rfl))))
     have hc17:=bp hb17;refine m_ (h:=AE (h:=AA (h:=AP (?_))));refine AJ ?_
     first|(exfalso;first|contradiction|omega)|exact Ar 7 0 rfl rfl rfl rfl (by repeat (first|exact Sub.nil|refine As rfl rfl ?_|refine Ay ?_|refine Az rfl ?_|refine B0 rfl ?_|(apply Sub.of;(focus exact rfl);(focus exact LeA.of_eq (vb (by first|(rw[hb15];rfl)|(rw[hb15,hb16];rfl)|(rw[hb15,hb16,hb17];rfl))));(focus exact rfl))))
    have hc15:=bp hb15;refine A3 (h:=A3 (h:=A3 (h:=A3 (h:=AW (h:=A3 (h:=A3 (h:=AW (h:=A3 (h:=AE (h:=AP (?_)))))))))));refine AJ ?_
    first|(exfalso;first|contradiction|omega)|exact Ar 7 0 rfl rfl rfl rfl (by repeat (first|exact Sub.nil|refine As rfl rfl ?_|refine Ay ?_|refine Az rfl ?_|refine B0 rfl ?_|(apply Sub.of;(focus exact rfl);(focus exact LeA.of_eq (vb (by first|(rw[hb15];rfl)|(rw[hb15,hb16];rfl)|(rw[hb15,hb16,hb17];rfl))));(focus exact rfl))))
   skip
   refine A9 rfl (fun hb18=>?_) (fun hb18=>?_)
   ·have hc18:=bp hb18
    have hlk:(Au s.files (AU s.files a q).1).kind=3∧(qs≠[]∨(fl||BJ p)=true):=by
     rw[Bool.and_eq_true,decide_eq_true_eq,Bool.or_eq_true,decide_eq_true_eq]at hc18;exact⟨hc18.1,hc18.2.imp (fun h e=>by rw[e]at h;simp at h) id⟩
    refine q_ (w_ (m_ (h:=AK (h:=e_ (?_)))));refine A9 rfl (fun hb19=>?_) (fun hb19=>?_)
    ·have hc19:=bp hb19;have hst:Cg s (fl||BJ p) q qs a lk= .inl 40:=by unfold Cg;rw[if_neg (by simp[hc6]),if_neg (by omega),if_neg hc8,if_neg hc10,if_neg (by simp[hc12]),if_pos hlk,if_pos (by omega)]
     refine w_ (AX (h:=s_ (h:=a_ (h:=e_ (A4 (A8 (A8 (AN (A8 (AN (A8 (?_))))))))))));refine A7 ?_;rw[KQ hc1 (by omega) ha had (hT.symm.trans ((G6 (F:=fl||BJ p) (da:=da) (na:=na) (ea:=ea) hv.files h8).1 _ hst)) (by decide)];rfl
    have hc19:=bp hb19;refine AD (w_ (m_ (h:=?_)));refine A6 rfl (JB rfl rfl (by omega) ?_);refine a_ (h:=e_ (w_ (f_ (h:=l_ (h:=?_)))));refine A6 rfl (AB (Q2 (Au s.files (AU s.files a q).1).target (by omega)) ?_);rintro r ⟨ps,hps,rfl⟩;obtain rfl:=Q5 hps;clear hps;refine m_ (h:=x_ (h:=x_ (h:=x_ (h:=a_ (h:=a_ (h:=a_ (h:=e_ (q_ (w_ (m_ (h:=e_ (?_))))))))))));refine A9 rfl (fun hb20=>?_) (fun hb20=>?_)
    ·have hc20:=bp hb20;have hst:Cg s (fl||BJ p) q qs a lk= .inr ⟨CZ (Au s.files (AU s.files a q).1).target++qs,Dd s,⟨#[]⟩,Dd s,true,lk+1⟩:=by unfold Cg;rw[if_neg (by simp[hc6]),if_neg (by omega),if_neg hc8,if_neg hc10,if_neg (by simp[hc12]),if_pos hlk,if_neg (by omega),if_pos hc20]
     refine AR (l_ (h:=?_));refine A6 rfl (AB (UV s hs.b hv) ?_);rintro r rfl;refine s_ (h:=e_ (w_ (m_ (h:=Dm (h:=m_ (h:=Dm (h:=a_ (h:=e_ (w_ (l_ (h:=l_ (h:=AX (h:=s_ (h:=e_ (BF (Ah (BG (?_))))))))))))))))));refine AJ ?_;obtain⟨g1,g2,g3⟩:=(G6 (F:=fl||BJ p) (da:=da) (na:=na) (ea:=ea) hv.files h8).2 _ hst;exact⟨_,_,g3,⟨_,_,g1,(by first|exact BR _|exact hq12),g2.symm.trans hT,rfl,Nat.le_trans (Nat.le_of_lt g3) hmq,rfl⟩,(by(try simp only[List.map_append]);exact Ar 5 0 rfl rfl rfl rfl ((by repeat (first|exact Sub.nil|refine As rfl rfl ?_|refine Ay ?_|refine Az rfl ?_|refine B0 rfl ?_))))⟩
    have hc20:=bp hb20;have hst:Cg s (fl||BJ p) q qs a lk= .inr ⟨CZ (Au s.files (AU s.files a q).1).target++qs,a,⟨#[]⟩,a,true,lk+1⟩:=by unfold Cg;rw[if_neg (by simp[hc6]),if_neg (by omega),if_neg hc8,if_neg hc10,if_neg (by simp[hc12]),if_pos hlk,if_neg (by omega),if_neg (by simp[hc20])]
    refine AD (w_ (m_ (h:=Dm (h:=m_ (h:=Dm (h:=a_ (h:=e_ (w_ (l_ (h:=l_ (h:=AX (h:=s_ (h:=e_ (BF (Ah (BG (?_)))))))))))))))));refine AJ ?_;obtain⟨g1,g2,g3⟩:=(G6 (F:=fl||BJ p) (da:=da) (na:=na) (ea:=ea) hv.files h8).2 _ hst;exact⟨_,_,g3,⟨_,_,g1,(by first|exact BR _|exact hq12),g2.symm.trans hT,rfl,Nat.le_trans (Nat.le_of_lt g3) hmq,rfl⟩,(by(try simp only[List.map_append]);exact Ar 5 0 rfl rfl rfl rfl ((by repeat (first|exact Sub.nil|refine As rfl rfl ?_|refine Ay ?_|refine Az rfl ?_|refine B0 rfl ?_))))⟩
   have hc18:=bp hb18
   have hlk:¬((Au s.files (AU s.files a q).1).kind=3∧(qs≠[]∨(fl||BJ p)=true)):=fun h=>by
    rw[decide_eq_true h.1,Bool.true_and,Bool.or_eq_false_iff]at hc18;rcases h.2 with e|e
    ·exact e (Ct (by have:=of_decide_eq_false hc18.1;omega))
    rw[hc18.2]at e;cases e
   have hst:Cg s (fl||BJ p) q qs a lk= .inr ⟨qs,a,q,Cd s s.mounts.length (AU s.files a q).1,true,lk⟩:=by unfold Cg;rw[if_neg (by simp[hc6]),if_neg (by omega),if_neg hc8,if_neg hc10,if_neg (by simp[hc12]),if_neg hlk]
   refine AD (C3 ([(0,Aj s),(3,AF a),(5,AF (AU s.files a q).1)]) 6 (h:=AO 0 (h:=Ac 1 (h:=AO 2 (h:=AO 3 (h:=?_))))));refine c_ 4 rfl (AB (QK hs.b hv (AU s.files a q).1) ?_);rintro r rfl;refine o_ (h:=Fa 5 (h:=?_));refine Bd 6 rfl (BY rfl rfl rfl rfl rfl rfl (by repeat constructor) (by repeat constructor) ?_);refine o_ (h:=z_ (h:=Ai (?_)));refine AJ ?_;obtain⟨g1,g2,g3⟩:=(G6 (F:=fl||BJ p) (da:=da) (na:=na) (ea:=ea) hv.files h8).2 _ hst;exact⟨_,_,g3,⟨_,_,g1,(by first|exact BR _|exact hq12),g2.symm.trans hT,rfl,Nat.le_trans (Nat.le_of_lt g3) hmq,rfl⟩,(by(try simp only[List.map_append]);exact Ar 5 0 rfl rfl rfl rfl ((by repeat (first|exact Sub.nil|refine As rfl rfl ?_|refine Ay ?_|refine Az rfl ?_|refine B0 rfl ?_))))⟩
  have hc5:=bp hb5;have hc5:¬(0:Int)<((ps0.map Ci).length:Int):=hc5;have e5:ps0=[]:=Ct (by omega);subst e5;have hfin:=hT.symm.trans (Q7 (s:=s) (fl:=fl||BJ p) (σ:=⟨[],da,na,a,ea,lk⟩) rfl);refine BF (Ah (Ah (BG (?_))));refine AJ ?_;exact⟨_,⟨_,_,hfin,(by first|exact Nat.le_trans hna (by decide)|exact Nat.le_trans hq12 (by decide)),rfl⟩,(wk 5 0)⟩
 rintro t ⟨τ,d,hT,hnm,rfl⟩;refine q_ (?_);refine Dt (⟨look [(4, .bp 0 0),(8, .bp 2 0),(12, .v (.bool (BJ p))),(14, .bp 4 0),(171, .v (.bool (BJ p&&(τ.ex&& !Ax s.files τ.file))))],⟨[Aj s,AF start,Dc DN,AF d,Ll τ],[]⟩⟩) ?_ ?_
 ·skip
  refine AR (m_ (h:=m_ (h:=?_)));refine AT true rfl rfl (fun hb21=>?_) (fun hb21=>?_)
  ·have hc21:=bp hb21;refine f_ (h:=l_ (h:=AA (h:=m_ (h:=?_))));refine AT true rfl rfl (fun hb22=>?_) (fun hb22=>?_)
   ·have hc22:=bp hb22;have hx:τ.ex=true:=hb22;refine f_ (h:=l_ (h:=f_ (h:=l_ (h:=?_))));refine B2 (AB (Gl s.files τ.file hs.b.files) ?_);rintro r rfl;refine B7 (h:=AA (h:=AP (?_)));refine AJ ?_
    first|(exfalso;first|contradiction|omega)|exact Ar 5 0 rfl rfl rfl rfl (by repeat (first|exact Sub.nil|refine As rfl rfl ?_|refine Ay ?_|refine Az rfl ?_|refine B0 rfl ?_|(apply Sub.of;(focus exact rfl);(focus exact LeA.of_eq (vb (by first|(rw[hb21];rfl)|(rw[hb21,hx];rfl))));(focus exact rfl))))
   have hc22:=bp hb22;have hx:τ.ex=false:=hb22;refine A3 (h:=A3 (h:=A3 (h:=A3 (h:=A3 (h:=A3 (h:=AE (h:=AP (?_))))))));refine AJ ?_
   first|(exfalso;first|contradiction|omega)|exact Ar 5 0 rfl rfl rfl rfl (by repeat (first|exact Sub.nil|refine As rfl rfl ?_|refine Ay ?_|refine Az rfl ?_|refine B0 rfl ?_|(apply Sub.of;(focus exact rfl);(focus exact LeA.of_eq (vb (by first|(rw[hb21];rfl)|(rw[hb21,hx];rfl))));(focus exact rfl))))
  have hc21:=bp hb21;refine A3 (h:=A3 (h:=AE (h:=m_ (h:=A3 (h:=A3 (h:=A3 (h:=A3 (h:=A3 (h:=A3 (h:=AE (h:=AP (?_))))))))))));refine AJ ?_
  first|(exfalso;first|contradiction|omega)|exact Ar 5 0 rfl rfl rfl rfl (by repeat (first|exact Sub.nil|refine As rfl rfl ?_|refine Ay ?_|refine Az rfl ?_|refine B0 rfl ?_|(apply Sub.of;(focus exact rfl);(focus exact LeA.of_eq (vb (by first|(rw[hb21];rfl)|(rw[hb21,hx];rfl))));(focus exact rfl))))
 skip
 refine A9 rfl (fun hb23=>?_) (fun hb23=>?_)
 ·have hc23:=bp hb23;refine w_ (AX (h:=s_ (h:=a_ (h:=e_ (A4 (A8 (?_)))))));refine A7 ?_;rw[UT hc1 (by omega) ha had hT (by simp only[Bool.and_eq_true,Bool.not_eq_true']at hc23;exact hc23)];rfl
 have hc23:=bp hb23;refine AD (w_ (m_ (h:=f_ (h:=s_ (h:=e_ (q_ (w_ (l_ (h:=f_ (h:=l_ (h:=?_)))))))))));refine A6 rfl (AB (ZS hs.b hv τ.dir) ?_);rintro r rfl;refine m_ (h:=x_ (h:=x_ (h:=a_ (h:=a_ (h:=e_ (w_ (m_ (h:=e_ (?_)))))))));refine A9 rfl (fun hb24=>?_) (fun hb24=>?_)
 ·have hc24:=bp hb24;refine w_ (m_ (h:=f_ (h:=s_ (h:=e_ (w_ (f_ (h:=l_ (h:=Ao (h:=e_ (?_))))))))));refine A9 rfl (fun hb25=>?_) (fun hb25=>?_)
  ·have hc25:=bp hb25;refine AR (m_ (h:=f_ (h:=l_ (h:=?_))));refine A6 rfl (AB (Tm (Bh s τ.dir).1 τ.name (by have:=hw τ.dir;omega) (by omega)) ?_);rintro r rfl;refine f_ (h:=s_ (h:=e_ (w_ (l_ (h:=s_ (h:=a_ (h:=e_ (A4 (?_)))))))));refine A7 ?_;rw[Nb hc1 (by omega) ha had hT (fun h=>by rw[h.1,h.2.1,h.2.2]at hc23;cases hc23),show G4 s (BJ p) τ=⟨τ.dir,τ.name,τ.file,τ.ex,BJ p,Cp (Bh s τ.dir).1 τ.name⟩ by unfold G4;rw[if_pos hc24,if_neg hc25]];rfl
  have hc25:=bp hb25;refine AD (w_ (l_ (h:=s_ (h:=a_ (h:=e_ (A4 (?_)))))));refine A7 ?_;rw[Nb hc1 (by omega) ha had hT (fun h=>by rw[h.1,h.2.1,h.2.2]at hc23;cases hc23),show G4 s (BJ p) τ=⟨τ.dir,τ.name,τ.file,τ.ex,BJ p,(Bh s τ.dir).1⟩ by unfold G4;rw[if_pos hc24,if_pos hc25]];rfl
 have hc24:=bp hb24;refine AD (w_ (l_ (h:=s_ (h:=a_ (h:=e_ (A4 (?_)))))));refine A7 ?_;rw[Nb hc1 (by omega) ha had hT (fun h=>by rw[h.1,h.2.1,h.2.2]at hc23;cases hc23),show G4 s (BJ p) τ=⟨τ.dir,τ.name,τ.file,τ.ex,BJ p,⟨#[]⟩⟩ by unfold G4;rw[if_neg (by simp[hc24])]];rfl
end
def Nd(R:Syst×Int):AV:= .tup [.agg (U2 R.1), .v (.int .i64 R.2)]
section
theorem cL(a:AG):AFn prog 111 [.agg (AF a)] (fun r=>r= .agg (QA (Q8 a))):=by
 refine enter Tryz.func111 rfl rfl rfl rfl rfl 0 rfl ?_;refine w_ (b_ (h:=Aa (h:=e_ (w_ (l_ (h:=?_))))));refine A6 rfl (Hj (y:= .agg (Q9 ⟨1,0,0,0,0,0,4294967295,4294967295,a,⟨#[105,110,105,116]⟩,⟨#[47,105,110,105,116]⟩,[],true⟩)) (EE ⟨rfl,rfl⟩) ?_);refine BX (h:=AX (h:=s_ (h:=e_ (A4 (?_)))));refine A7 ?_;rfl
theorem cM(n:Int):AFn prog 60 [.v (.int .i64 n)] (fun r=>r=Nd (G5 n)):=by
 refine enter Tryz.func60 rfl rfl rfl rfl rfl 0 rfl ?_;refine w_ (Aa (h:=a_ (h:=e_ (w_ (m_ (h:=?_))))));refine A6 rfl (AB (SD n) ?_);rintro r rfl;refine m_ (h:=x_ (h:=x_ (h:=Aa (h:=s_ (h:=a_ (h:=e_ (q_ (w_ (m_ (h:=Ao (h:=e_ (?_))))))))))));refine A9 rfl (fun hb1=>?_) (fun hb1=>?_)
 ·have hc1:=bp hb1;refine w_ (AX (h:=m_ (h:=s_ (h:=a_ (h:=e_ (A4 (A8 (?_))))))));refine Av (r:=Nd (G5 n)) none (h5:=?_) (h6:=⟨rfl,rfl,rfl⟩);rw[G5,if_pos (by simpa using hc1)];exact(by repeat (first|exact AZ _|exact LeA.nil _|exact LeL.refl _|refine LeA.agg ?_|refine LeA.tup ?_|exact LeL.nil|refine LeL.cons ?_ ?_|exact LeA.any _))
 have hc1:=bp hb1;refine AD (q_ (C3 ([(1,At (E6 n).1)]) 7 (h:=AO 0 (h:=Fa 1 (h:=Fa 2 (h:=?_))))));refine c_ 3 rfl (AB (cL (0,1)) ?_);rintro r rfl;refine o_ (h:=Fa 4 (h:=?_));refine Bd 5 rfl (BY rfl rfl rfl rfl rfl rfl (by repeat constructor) (by repeat constructor) ?_);refine o_ (h:=BL 6 (h:=z_ (h:=t_ (A4 (?_)))));refine Av (r:=Nd (G5 n)) none (h5:=?_) (h6:=⟨rfl,rfl,rfl⟩);rw[G5,if_neg (by simpa using hc1)];exact(by repeat (first|exact AZ _|exact LeA.nil _|exact LeL.refl _|refine LeA.agg ?_|refine LeA.tup ?_|exact LeL.nil|refine LeL.cons ?_ ?_|exact LeA.any _))
end
theorem cO{f:Nat→Option AV}{bx:List (List AV)}{tk:List C8}{N:Dim}(i:Nat){row row':List AV}(hi:bx[i]?=some row)(hle:LeL row row'):Weak N ⟨f,⟨bx,tk⟩⟩ ⟨f,⟨bx.set i row',tk⟩⟩:=by
 rintro E a w ⟨G,h1,h2,h3⟩;exact⟨G,h1.boxLe hi (fun us hu=>hle G w us hu),h2,h3⟩
section
variable {P:Program}{rs:List ResultVar}{n:Nat}{R:AV→List (List AV)→List C8→Prop}{s:AS}{xs:List AV}{r:AV}
theorem gH(g:Option Nat){tk':List C8}(h1:ResA P s rs xs:=by repeat (first|exact ResA.nil|(apply ResA.tmp;(focus exact rfl))|(apply ResA.cellN;(focus exact inferInstance);(focus exact rfl);(focus exact rfl);(focus exact rfl))|(apply ResA.cell1;(focus exact inferInstance);(focus exact rfl);(focus exact rfl);(focus exact rfl))))(h2:Ha s.h.tk g=some tk':=by rfl)(h3:BA n 1 (Cw g (Du xs))=true:=by rfl)(h4:BK n 0 (s.h.bx.take n)=true:=by simp[BK,BB,BA,QB itmF,bp_wrk,WA,IB,fndS,Dc,Ap,AF,QA,Aj,At])(h5:LeA (Cw g (Du xs)) r)(h6:R r (s.h.bx.take n) tk'):Hb P rs n R .ret s:=ML g h1 h2 h3 h4 h5 h6
end
theorem gJ{f:Nat→Option AV}{bx:List (List AV)}{tk:List (Nat×Nat×List (List AV))}{l:List (Nat×AV)}{N:Dim}(n m:Nat){bx':List (List AV)}{tk':List (Nat×Nat×List (List AV))}(hn:Nat.ble N.ni n=true:=by rfl)(hb:bx.take n=bx':=by rfl)(ht:tk.take m=tk':=by rfl)(hbp:BK n m bx'=true:=by simp[BK,BB,BA,QB itmF,bp_wrk,WA,IB,fndS,Dc,Ap,AF,QA,Aj,At])(hl:Sub n m f l:=by repeat (first|exact Sub.nil|refine Sub.cons _ _ _ rfl rfl ?_|refine Sub.any _ _ ?_|refine Sub.sl _ _ _ _ _ rfl ?_|refine Sub.slnil _ _ _ rfl ?_)):Weak N ⟨f,⟨bx,tk⟩⟩ ⟨look l,⟨bx',tk'⟩⟩:=Ar n m hn hb ht hbp hl
structure Wch where
 kind:Int
 dir:AG
 name:AM
 file:AG
deriving DecidableEq
def Dl:Wch:=⟨0,(0,0),⟨#[]⟩,(0,0)⟩
def Cs(w:Wch):List AV:=[.v (.int .i64 w.kind), .v (.int .i64 w.dir.1), .v (.int .i64 w.dir.2), .v (.string w.name), .v (.int .i64 w.file.1), .v (.int .i64 w.file.2)]
def J3(s:Spc)(k:Int)(p:AM):Wch×Int:=
 if(k≠1∧k≠2)∨DJ p.data.toList=false then(Dl,22)
 else if(Cr s (0,0) p (decide (k=2))).2≠0 then(Dl,(Cr s (0,0) p (decide (k=2))).2)
 else if k=2 then
  (if(Cr s (0,0) p true).1.ex=false then(Dl,2)else if Ax s.files (Cr s (0,0) p true).1.file=false then(Dl,20)
  else(⟨k,(0,0),⟨#[]⟩,(Cr s (0,0) p true).1.file⟩,0))
 else if(Cr s (0,0) p false).1.name=⟨#[]⟩then(Dl,22)
 else(⟨k,(Cr s (0,0) p false).1.dir,(Cr s (0,0) p false).1.name,(AU s.files (Cr s (0,0) p false).1.dir (Cr s (0,0) p false).1.name).1⟩,0)
def D9(s:Spc)(a b:AG):Bool:=decide (a∈BH s (BQ s.files) b)
def Bw(s:Spc)(w:Wch)(dir:AG)(name:AM)(file:AG):Bool:=
 if w.kind=1 then(decide (w.file≠(0,0))&&decide (file=w.file))||(decide (name≠⟨#[]⟩)&&decide (dir=w.dir)&&decide (name=w.name))
 else if w.kind=2 then D9 s w.file dir||D9 s w.file file else false
theorem Lm(a b:AG)(w:World):(binOp .eql 26 (.agg #[.int .i64 a.1, .int .i64 a.2]) (.agg #[.int .i64 b.1, .int .i64 b.2])).run prog w= .ok (.bool (decide (a=b))) w:=Jw a.1 a.2 b.1 b.2 w
theorem UW(a b:AG)(w:World):(binOp .neq 26 (.agg #[.int .i64 a.1, .int .i64 a.2]) (.agg #[.int .i64 b.1, .int .i64 b.2])).run prog w= .ok (.bool (!decide (a=b))) w:=Ru a.1 a.2 b.1 b.2 w
def Nf(R:Wch×Int):AV:= .tup [.agg (Cs R.1), .v (.int .i64 R.2)]
theorem UX(s:Spc)(k:Int)(p:AM)(F:Fnd×Int)(hF:Cr s (0,0) p (decide (k=2))=F):J3 s k p=if(k≠1∧k≠2)∨DJ p.data.toList=false then(Dl,22)else if F.2≠0 then(Dl,F.2)
    else if k=2 then(if F.1.ex=false then(Dl,2)else if Ax s.files F.1.file=false then(Dl,20)else(⟨k,(0,0),⟨#[]⟩,F.1.file⟩,0))
    else if F.1.name=⟨#[]⟩then(Dl,22)else(⟨k,F.1.dir,F.1.name,(AU s.files F.1.dir F.1.name).1⟩,0):=by
 unfold J3;rw[hF];by_cases h:k=2
 ·rw[decide_eq_true h]at hF;simp only[if_pos h,hF]
 rw[decide_eq_false h]at hF;simp only[if_neg h,hF]
theorem cQ{f:Af}{dir:AG}{name:AM}(h:(AU f dir name).2≠0):(AU f dir name).1=(0,0):=by
 unfold AU at h ⊢;split
 ·rfl
 rename_i n e;rw[e]at h;simp only at h;split at h
 ·rename_i c;rw[if_pos c];split
  ·rfl
  rename_i e2;rw[e2]at h;exact absurd rfl h
 rename_i c;rw[if_neg c]
section
theorem Ng(s:AM)(hs:s.size≤60000):AFn prog 183 [.v (.string s)] (fun r=>r= .v (.bool (DJ s.data.toList))):=MZ (us:=[.string s]) fun w=>b7 s w (by omega)
theorem UY(s:Spc)(a:AG)(hs:SpcB s):AFn prog 119 [.agg (Aj s), .agg (AF a)] (fun r=>r= .v (.bool (Ax s.files a))):=by
 refine enter Tryz.func119 rfl rfl rfl rfl rfl 0 rfl ?_;refine w_ (b_ (h:=b_ (h:=a_ (h:=e_ (w_ (f_ (h:=l_ (h:=l_ (h:=?_)))))))));refine A6 rfl (AB (GM s.files a hs.files) ?_);rintro r rfl;refine m_ (h:=x_ (h:=x_ (h:=Aa (h:=s_ (h:=a_ (h:=e_ (w_ (m_ (h:=m_ (h:=?_))))))))));refine AT true rfl rfl (fun hb1=>?_) (fun hb1=>?_)
 ·have hc1:=bp hb1;refine f_ (h:=l_ (h:=AK (h:=AA (h:=a_ (h:=e_ (A4 (?_)))))));refine A7 ?_
  first|(exfalso;first|contradiction|omega)|(exact vb (by simp[FB, *]))
 have hc1:=bp hb1;refine A3 (h:=A3 (h:=A3 (h:=AE (h:=a_ (h:=e_ (A4 (?_)))))));refine A7 ?_
 first|(exfalso;first|contradiction|omega)|(exact vb (by simp[FB, *]))
theorem cR(s:Spc)(a:AG)(name:AM)(hs:SpcB s):AFn prog 133 [.agg (Aj s), .agg (AF a), .v (.string name)] (fun r=>r= .agg (AF (AU s.files a name).1)):=by
 refine enter Tryz.func133 rfl rfl rfl rfl rfl 0 rfl ?_;refine w_ (b_ (h:=b_ (h:=Aa (h:=e_ (w_ (f_ (h:=l_ (h:=l_ (h:=m_ (h:=?_))))))))));refine A6 rfl (AB (QG s.files a name hs.files) ?_);rintro r rfl;refine m_ (h:=x_ (h:=x_ (h:=Aa (h:=s_ (h:=a_ (h:=e_ (q_ (w_ (m_ (h:=Ao (h:=e_ (?_))))))))))));refine A9 rfl (fun hb1=>?_) (fun hb1=>?_)
 ·have hc1:=bp hb1;refine w_ (AX (h:=s_ (h:=e_ (A4 (A8 (?_))))));refine A7 ?_;rw[cQ (by simpa using hc1)];rfl
 have hc1:=bp hb1;refine AD (w_ (l_ (h:=s_ (h:=e_ (A4 (?_))))));refine A7 ?_;rfl
theorem cT(s:Spc)(k:Int)(p:AM)(hv:SpcV s)(hm:s.mounts.length≤1000)(hp:p.size≤50000):AFn prog 130 [.agg (Aj s), .v (.int .i64 k), .v (.string p)] (fun r=>r=Nf (J3 s k p)):=by
 have hsb:=hv.b hm;obtain⟨F,hF⟩:∃F,Cr s (0,0) p (decide (k=2))=F:=⟨_,rfl⟩;have hw:=UX s k p F hF;have hfind:AFn prog 141 [.agg (Aj s), .agg (AF (0,0)), .v (.string p), .v (.bool (decide (k=2)))] (fun r=>r= .tup [.agg (Dc F.1), .v (.int .i64 F.2)]):=by rw[←hF];exact cK s (0,0) p _ (hv.n hm) hv (by omega)
 refine enter Tryz.func130 rfl rfl rfl rfl rfl 0 rfl ?_;refine w_ (b_ (h:=Aa (h:=a_ (h:=e_ (q_ (?_))))));refine Bx (fun S=>S=⟨look [(1, .v (.int .i64 k)),(2, .v (.string p)),(3, .bp 0 0),(6, .bp 1 0),(22, .v (.bool ((!decide (k=1)&& !decide (k=2))|| !DJ p.data.toList)))],⟨[Aj s,[.v (.int .i64 0), .v (.int .i64 0), .v (.int .i64 0), .v (.string ⟨#[]⟩), .v (.int .i64 0), .v (.int .i64 0)]],[]⟩⟩) ?_ ?_
 ·skip
  refine AR (m_ (h:=Ao (h:=m_ (h:=?_))));refine AT true rfl rfl (fun hb1=>?_) (fun hb1=>?_)
  ·have hc1:=bp hb1;refine m_ (h:=Ao (h:=AA (h:=m_ (h:=?_))));refine AT false rfl rfl (fun hb2=>?_) (fun hb2=>?_)
   ·have hc2:=bp hb2;refine A3 (h:=A3 (h:=A3 (h:=AA (h:=AP (?_)))));refine AJ ?_;exact⟨_,rfl,D1 2 0 rfl⟩
   have hc2:=bp hb2;refine m_ (h:=?_);refine B2 (AB (NQ p hp) ?_);rintro r rfl;refine B7 (h:=AE (h:=AP (?_)));refine AJ ?_;exact⟨_,rfl,D1 2 0 rfl⟩
  have hc1:=bp hb1;refine A3 (h:=A3 (h:=AE (h:=m_ (h:=m_ (h:=?_)))));refine B2 (AB (NQ p hp) ?_);rintro r rfl;refine B7 (h:=AE (h:=AP (?_)));refine AJ ?_;exact⟨_,rfl,D1 2 0 rfl⟩
 rintro S rfl;refine A9 rfl (fun hb3=>?_) (fun hb3=>?_)
 ·have hc3:=bp hb3;have k1:(k≠1∧k≠2)∨DJ p.data.toList=false:=by simpa using hc3
  refine w_ (AX (h:=s_ (h:=a_ (h:=e_ (A4 (A8 (?_)))))));refine A7 ?_;rw[hw,if_pos k1];rfl
 have hc3:=bp hb3;have k1:¬((k≠1∧k≠2)∨DJ p.data.toList=false):=by simpa using hc3
 refine AD (w_ (l_ (h:=AX (h:=m_ (h:=m_ (h:=AK (h:=?_)))))));refine A6 rfl (AB (hfind) ?_);rintro r rfl;refine m_ (h:=x_ (h:=x_ (h:=Aa (h:=s_ (h:=a_ (h:=e_ (q_ (w_ (m_ (h:=Ao (h:=e_ (?_))))))))))));refine A9 rfl (fun hb4=>?_) (fun hb4=>?_)
 ·have hc4:=bp hb4;have k2:F.2≠0:=by simpa using hc4
  refine w_ (AX (h:=m_ (h:=s_ (h:=a_ (h:=e_ (A4 (A8 (?_))))))));refine A7 ?_;rw[hw,if_neg k1,if_pos k2];rfl
 have hc4:=bp hb4;have k2:¬F.2≠0:=by simpa using hc4
 refine AD (q_ (w_ (m_ (h:=AK (h:=e_ (?_))))));refine A9 rfl (fun hb5=>?_) (fun hb5=>?_)
 ·have hc5:=bp hb5;have k3:k=2:=hc5;refine q_ (w_ (f_ (h:=l_ (h:=B7 (h:=e_ (?_))))));refine A9 rfl (fun hb6=>?_) (fun hb6=>?_)
  ·have hc6:=bp hb6;have k4:F.1.ex=false:=by simpa using hc6
   refine w_ (AX (h:=s_ (h:=a_ (h:=e_ (A4 (A8 (A8 (?_))))))));refine A7 ?_;rw[hw,if_neg k1,if_neg k2,if_pos k3,if_pos k4];rfl
  have hc6:=bp hb6;have k4:¬F.1.ex=false:=by simpa using hc6
  refine AD (q_ (w_ (f_ (h:=l_ (h:=f_ (h:=l_ (h:=?_)))))));refine A6 rfl (AB (Gl s.files F.1.file hsb.files) ?_);rintro r rfl;refine B7 (h:=e_ (?_));refine A9 rfl (fun hb7=>?_) (fun hb7=>?_)
  ·have hc7:=bp hb7;have k5:Ax s.files F.1.file=false:=by simpa using hc7
   refine w_ (AX (h:=s_ (h:=a_ (h:=e_ (A4 (A8 (A8 (?_))))))));refine A7 ?_;rw[hw,if_neg k1,if_neg k2,if_pos k3,if_neg k4,if_pos k5];rfl
  have hc7:=bp hb7;have k5:¬Ax s.files F.1.file=false:=by simpa using hc7
  refine AD (w_ (m_ (h:=f_ (h:=l_ (h:=AX (h:=s_ (h:=a_ (h:=e_ (A4 (A8 (?_)))))))))));refine A7 ?_;rw[hw,if_neg k1,if_neg k2,if_pos k3,if_neg k4,if_neg k5];rfl
 have hc5:=bp hb5;have k3:¬k=2:=hc5;refine AD (q_ (w_ (f_ (h:=l_ (h:=AK (h:=e_ (?_)))))));refine A9 rfl (fun hb8=>?_) (fun hb8=>?_)
 ·have hc8:=bp hb8;have k6:F.1.name=⟨#[]⟩:=hc8;refine w_ (AX (h:=s_ (h:=a_ (h:=e_ (A4 (A8 (?_)))))));refine A7 ?_;rw[hw,if_neg k1,if_neg k2,if_neg k3,if_pos k6];rfl
 have hc8:=bp hb8;have k6:¬F.1.name=⟨#[]⟩:=hc8;refine AD (w_ (f_ (h:=l_ (h:=f_ (h:=l_ (h:=f_ (h:=l_ (h:=?_))))))));refine A6 rfl (AB (Hm s.files F.1.dir F.1.name hsb.files) ?_);rintro r rfl;refine m_ (h:=x_ (h:=x_ (h:=Aa (h:=s_ (h:=a_ (h:=e_ (w_ (m_ (h:=f_ (h:=l_ (h:=f_ (h:=l_ (h:=l_ (h:=AX (h:=s_ (h:=a_ (h:=e_ (A4 (?_)))))))))))))))))));refine A7 ?_;rw[hw,if_neg k1,if_neg k2,if_neg k3,if_neg k6];rfl
theorem cU(s:Spc)(k:Int)(p:AM)(hv:SpcV s)(hm:s.mounts.length≤1000)(hp:p.size≤50000):AFn prog 128 [.agg (Aj s), .v (.int .i64 k), .v (.string p)] (fun r=>r=Nf (J3 s k p)):=by
 have hsb:=hv.b hm;obtain⟨F,hF⟩:∃F,Cr s (0,0) p (decide (k=2))=F:=⟨_,rfl⟩;have hw:=UX s k p F hF;have hfind:AFn prog 184 [.agg (Aj s), .agg (AF (0,0)), .v (.string p), .v (.bool (decide (k=2)))] (fun r=>r= .tup [.agg (Dc F.1), .v (.int .i64 F.2)]):=by rw[←hF];exact cJ s (0,0) p _ (hv.n hm) hv (by omega)
 refine enter Tryz.func128 rfl rfl rfl rfl rfl 0 rfl ?_;refine w_ (b_ (h:=Aa (h:=a_ (h:=e_ (q_ (?_))))));refine Bx (fun S=>S=⟨look [(1, .v (.int .i64 k)),(2, .v (.string p)),(3, .bp 0 0),(6, .bp 1 0),(20, .v (.bool ((!decide (k=1)&& !decide (k=2))|| !DJ p.data.toList)))],⟨[Aj s,[.v (.int .i64 0), .v (.int .i64 0), .v (.int .i64 0), .v (.string ⟨#[]⟩), .v (.int .i64 0), .v (.int .i64 0)]],[]⟩⟩) ?_ ?_
 ·skip
  refine AR (m_ (h:=Ao (h:=m_ (h:=?_))));refine AT true rfl rfl (fun hb1=>?_) (fun hb1=>?_)
  ·have hc1:=bp hb1;refine m_ (h:=Ao (h:=AA (h:=m_ (h:=?_))));refine AT false rfl rfl (fun hb2=>?_) (fun hb2=>?_)
   ·have hc2:=bp hb2;refine A3 (h:=A3 (h:=A3 (h:=AA (h:=AP (?_)))));refine AJ ?_;exact⟨_,rfl,D1 2 0 rfl⟩
   have hc2:=bp hb2;refine m_ (h:=?_);refine B2 (AB (Ng p (by omega)) ?_);rintro r rfl;refine B7 (h:=AE (h:=AP (?_)));refine AJ ?_;exact⟨_,rfl,D1 2 0 rfl⟩
  have hc1:=bp hb1;refine A3 (h:=A3 (h:=AE (h:=m_ (h:=m_ (h:=?_)))));refine B2 (AB (Ng p (by omega)) ?_);rintro r rfl;refine B7 (h:=AE (h:=AP (?_)));refine AJ ?_;exact⟨_,rfl,D1 2 0 rfl⟩
 rintro S rfl;refine A9 rfl (fun hb3=>?_) (fun hb3=>?_)
 ·have hc3:=bp hb3;have k1:(k≠1∧k≠2)∨DJ p.data.toList=false:=by simpa using hc3
  refine w_ (AX (h:=s_ (h:=a_ (h:=e_ (A4 (A8 (?_)))))));refine A7 ?_;rw[hw,if_pos k1];rfl
 have hc3:=bp hb3;have k1:¬((k≠1∧k≠2)∨DJ p.data.toList=false):=by simpa using hc3
 refine AD (w_ (l_ (h:=AX (h:=m_ (h:=m_ (h:=AK (h:=?_)))))));refine A6 rfl (AB (hfind) ?_);rintro r rfl;refine m_ (h:=x_ (h:=x_ (h:=Aa (h:=s_ (h:=a_ (h:=e_ (q_ (w_ (m_ (h:=Ao (h:=e_ (?_))))))))))));refine A9 rfl (fun hb4=>?_) (fun hb4=>?_)
 ·have hc4:=bp hb4;have k2:F.2≠0:=by simpa using hc4
  refine w_ (AX (h:=m_ (h:=s_ (h:=a_ (h:=e_ (A4 (A8 (?_))))))));refine A7 ?_;rw[hw,if_neg k1,if_pos k2];rfl
 have hc4:=bp hb4;have k2:¬F.2≠0:=by simpa using hc4
 refine AD (q_ (w_ (m_ (h:=AK (h:=e_ (?_))))));refine A9 rfl (fun hb5=>?_) (fun hb5=>?_)
 ·have hc5:=bp hb5;have k3:¬k=2:=by omega
  refine q_ (w_ (f_ (h:=l_ (h:=AK (h:=e_ (?_))))));refine A9 rfl (fun hb6=>?_) (fun hb6=>?_)
  ·have hc6:=bp hb6;have k6:F.1.name=⟨#[]⟩:=hc6;refine w_ (AX (h:=s_ (h:=a_ (h:=e_ (A4 (A8 (A8 (?_))))))));refine A7 ?_;rw[hw,if_neg k1,if_neg k2,if_neg k3,if_pos k6];rfl
  have hc6:=bp hb6;have k6:¬F.1.name=⟨#[]⟩:=hc6;refine AD (q_ (C3 ([(0,Aj s),(2,Dc F.1)]) 14 (h:=Ac 0 (h:=Aw 1 (h:=?_)))))
  first|refine AO 2 (h:=?_)|refine BN 2 rfl (fun _ hS=>DZ (row:=Aj s) rfl (kb hS rfl) (B9 rfl) rfl ⟨rfl,rfl⟩) ?_
  refine Aw 3 (h:=?_)
  first|refine AO 4 (h:=?_)|refine BN 4 rfl (fun _ hS=>DZ (row:=Aj s) rfl (kb hS rfl) (B9 rfl) rfl ⟨rfl,rfl⟩) ?_
  first|refine AO 5 (h:=?_)|refine BN 5 rfl (fun _ hS=>DZ (row:=Aj s) rfl (kb hS rfl) (B9 rfl) rfl ⟨rfl,rfl⟩) ?_
  refine Aw 6 (h:=?_)
  first|refine AO 7 (h:=?_)|refine BN 7 rfl (fun _ hS=>DZ (row:=Aj s) rfl (kb hS rfl) (B9 rfl) rfl ⟨rfl,rfl⟩) ?_
  refine Aw 8 (h:=?_)
  first|refine AO 9 (h:=?_)|refine BN 9 rfl (fun _ hS=>DZ (row:=Aj s) rfl (kb hS rfl) (B9 rfl) rfl ⟨rfl,rfl⟩) ?_
  refine c_ 10 rfl (AB (cR s F.1.dir F.1.name hsb) ?_);rintro r rfl;refine o_ (h:=Fa 11 (h:=?_));refine Bd 12 rfl (BY rfl rfl rfl rfl rfl rfl (by repeat constructor) (by repeat constructor) ?_);refine o_ (h:=BL 13 (h:=z_ (h:=t_ (A4 (A8 (?_))))));refine A7 ?_;rw[hw,if_neg k1,if_neg k2,if_neg k3,if_neg k6];rfl
 have hc5:=bp hb5;have k3:k=2:=by simp at k1;omega
 refine AD (q_ (w_ (f_ (h:=l_ (h:=B7 (h:=e_ (?_)))))));refine A9 rfl (fun hb7=>?_) (fun hb7=>?_)
 ·have hc7:=bp hb7;have k4:F.1.ex=false:=by simpa using hc7
  refine w_ (AX (h:=s_ (h:=a_ (h:=e_ (A4 (A8 (?_)))))));refine A7 ?_;rw[hw,if_neg k1,if_neg k2,if_pos k3,if_pos k4];rfl
 have hc7:=bp hb7;have k4:¬F.1.ex=false:=by simpa using hc7
 refine AD (q_ (w_ (l_ (h:=f_ (h:=l_ (h:=?_))))));refine A6 rfl (AB (UY s F.1.file hsb) ?_);rintro r rfl;refine B7 (h:=e_ (?_));refine A9 rfl (fun hb8=>?_) (fun hb8=>?_)
 ·have hc8:=bp hb8;have k5:Ax s.files F.1.file=false:=by simpa using hc8
  refine w_ (AX (h:=s_ (h:=a_ (h:=e_ (A4 (A8 (?_)))))));refine A7 ?_;rw[hw,if_neg k1,if_neg k2,if_pos k3,if_neg k4,if_pos k5];rfl
 have hc8:=bp hb8;have k5:¬Ax s.files F.1.file=false:=by simpa using hc8
 refine AD (w_ (m_ (h:=f_ (h:=l_ (h:=AX (h:=s_ (h:=a_ (h:=e_ (A4 (?_))))))))));refine A7 ?_;rw[hw,if_neg k1,if_neg k2,if_pos k3,if_neg k4,if_neg k5];rfl
end
end Go.Proofs.YtbgnigjfkbmceaaGreatDoor
