/-
  Part 13 of the proof of WatchFollowsP: what the statement's proof uses of the texts in wip/tpl.
-/
import Derived.Test.YtbglbmnhgbgelaaGreatDoorQf12
open Go.Proofs.Tryz (prog)
set_option maxRecDepth 10000
set_option maxHeartbeats 4000000
set_option linter.unusedVariables false
set_option linter.unusedSimpArgs false
namespace Go.Proofs.YtbglbmnhgbgelaaGreatDoor
open Go.RowKit
def GB(f:AU)(a:AA):Int:=match Bo f a with
 |none=>2
 |some n=>if n.kind=2 then 0 else 20
def GW(f:AU)(a:AA)(name:AD):AA×Bool:=match Bo f a with
 |none=>((0,0),false)
 |some n=>match n.entries.find? (fun e:BF=>decide (e.1=name))with
   |none=>((0,0),false)
   |some e=>((a.1,e.2),true)
theorem iG{f:AU}{a:AA}{name:AD}(h:¬GB f a=0):AB f a name=((0,0),GB f a):=by
 unfold GB at h ⊢;unfold AB
 cases hn:Bo f a with
 |none=>rfl
 |some n=>
   simp only[hn]at h ⊢;by_cases hk:n.kind=2
   ·rw[if_pos hk]at h;exact absurd rfl h
   rw[if_neg hk,if_neg hk]
theorem iH{f:AU}{a:AA}{name:AD}(h:GB f a=0)(h2:(GW f a name).2=false):AB f a name=((0,0),2):=by
 unfold GB at h;unfold GW at h2;unfold AB
 cases hn:Bo f a with
 |none=>rfl
 |some n=>
   simp only[hn]at h h2 ⊢;by_cases hk:n.kind=2
   ·rw[if_pos hk]
    cases hf:n.entries.find? (fun e:BF=>decide (e.1=name))with
    |none=>rfl
    |some e=>rw[hf]at h2;cases h2
   rw[if_neg hk]at h;exact absurd h (by decide)
theorem iJ{f:AU}{a:AA}{name:AD}(h:GB f a=0)(h2:(GW f a name).2=true):AB f a name=((GW f a name).1,0):=by
 unfold GB at h;unfold GW at h2 ⊢;unfold AB
 cases hn:Bo f a with
 |none=>rw[hn]at h2;cases h2
 |some n=>
   simp only[hn]at h h2 ⊢;by_cases hk:n.kind=2
   ·rw[if_pos hk]
    cases hf:n.entries.find? (fun e:BF=>decide (e.1=name))with
    |none=>rw[hf]at h2;cases h2
    |some e=>rfl
   rw[if_neg hk]at h;exact absurd h (by decide)
def EZ(s:Spc)(fl:Bool)(w:Wk):List AV:=[.sl 2 (s.files.map C7) none, .sl 3 (s.mounts.map D2) none, .sl 1 (w.ps.map DF) none, .v (.int .i64 w.at_.1), .v (.int .i64 w.at_.2), .v (.int .i64 w.dir.1), .v (.int .i64 w.dir.2), .v (.string w.name), .v (.bool w.missing), .v (.bool fl), .v (.int .i64 (w.links:Int))]
theorem WO(d m:AD)(hd:d.size≤1000000)(hm:m.size≤1000000):AFn prog 138 [.v (.string d), .v (.string m)] (fun r=>r= .v (.string (DX d m))):=
 OG (us:=[.string d, .string m]) fun w=>(V4 d m w hd hm).mono fun e w' h=>by
  obtain⟨h1,rfl⟩:=h;exact⟨h1,Below.refl _ _⟩
theorem iK(t:AD):AFn prog 132 [.v (.string t), .v (.string ⟨#[47]⟩)] (fun r=>r= .v (.bool (Cx t))):=
 OG (us:=[.string t, .string ⟨#[47]⟩]) fun w=>(Tryz.strings_HasPrefix t ⟨#[47]⟩ w).mono fun e w' h=>by
  obtain⟨h1,rfl⟩:=h;refine⟨?_,Below.refl _ _⟩;rw[h1];unfold Cx;rw[←NX]
section
theorem iL(f:AU)(a:AA)(hf:FlsB f):AFn prog 139 [.agg (Ay f), .agg (AE a)] (fun r=>r= .v (.int .i64 (GB f a))):=by
 refine enter Tryz.func139 rfl rfl rfl rfl rfl 0 rfl ?_;refine w_ (b_ (h:=b_ (h:=a_ (h:=e_ (w_ (l_ (h:=l_ (h:=?_))))))));refine A6 rfl (AK (QS f a hf) ?_);rintro r (⟨e,rfl⟩|⟨n,e,rfl⟩)
 ·skip
  refine a_ (h:=e_ (q_ (Av (w_ (m_ (h:=?_))))));refine A6 rfl (LP (by kernel_rfl) rfl rfl ?_);refine a_ (h:=e_ (?_));refine A8 rfl (fun hb1=>?_) (fun hb1=>?_)
  ·have hc1:=bp hb1;refine w_ (a_ (h:=e_ (A4 (AY (A7 (?_))))));refine AJ ?_;rw[show GB f a=2 by simp only[GB,e]];rfl
  have hc1:=bp hb1;exfalso;first|contradiction|omega
 skip
 refine a_ (h:=e_ (q_ (Av (w_ (m_ (h:=?_))))))
 first|refine A6 rfl (LP (by kernel_rfl) rfl rfl ?_)|refine A6 rfl (OX (by kernel_rfl) rfl rfl ?_)
 refine a_ (h:=e_ (?_));refine A8 rfl (fun hb2=>?_) (fun hb2=>?_)
 ·have hc2:=bp hb2;exfalso;first|contradiction|omega
 have hc2:=bp hb2;refine w_ (m_ (h:=k_ (h:=f_ (h:=l_ (h:=BV (h:=a_ (h:=e_ (?_))))))));refine A8 rfl (fun hb3=>?_) (fun hb3=>?_)
 ·have hc3:=bp hb3;refine w_ (a_ (h:=e_ (A4 (AY (A7 (?_))))));refine AJ ?_;rw[show GB f a=20 by simp only[GB,e];exact if_neg hc3];rfl
 have hc3:=bp hb3;refine BM (B8 (t_ (w_ (a_ (h:=e_ (A4 (?_)))))));refine AJ ?_;rw[show GB f a=0 by simp only[GB,e];exact if_pos hc3];rfl
theorem iM(f:AU)(a:AA)(name:AD)(hf:FlsB f):AFn prog 140 [.agg (Ay f), .agg (AE a), .v (.string name)] (fun r=>r= .tup [.agg (AE (GW f a name).1), .v (.bool (GW f a name).2)]):=by
 have hen:=Mb hf a;refine enter Tryz.func140 rfl rfl rfl rfl rfl 0 rfl ?_;refine w_ (b_ (h:=b_ (h:=AZ (h:=a_ (h:=e_ (w_ (l_ (h:=l_ (h:=?_)))))))));refine A6 rfl (AK (QS f a hf) ?_);rintro r (⟨e,rfl⟩|⟨n,e,rfl⟩)
 ·skip
  refine a_ (h:=e_ (q_ (w_ (m_ (h:=?_)))));refine A6 rfl (LP (by kernel_rfl) rfl rfl ?_);refine e_ (?_);refine A8 rfl (fun hb1=>?_) (fun hb1=>?_)
  ·have hc1:=bp hb1;refine w_ (AX (h:=s_ (h:=a_ (h:=e_ (A4 (A7 (?_)))))));refine AJ ?_;rw[show GW f a name=((0,0),false) by simp only[GW,e]];rfl
  have hc1:=bp hb1;exfalso;first|contradiction|omega
 have hnl:n.entries.length≤1000:=by simpa[Ah,e]using hen
 refine a_ (h:=e_ (q_ (w_ (m_ (h:=?_)))))
 first|refine A6 rfl (LP (by kernel_rfl) rfl rfl ?_)|refine A6 rfl (OX (by kernel_rfl) rfl rfl ?_)
 refine e_ (?_);refine A8 rfl (fun hb2=>?_) (fun hb2=>?_)
 ·have hc2:=bp hb2;exfalso;first|contradiction|omega
 have hc2:=bp hb2;refine AN (q_ (w_ (m_ (h:=k_ (h:=f_ (h:=l_ (h:=n_ (h:=m_ (h:=e_ (Av (?_)))))))))));refine Bq (fun m t=>∃j:Nat,j≤n.entries.length∧m=n.entries.length - j∧(∀i y,i<j→n.entries[i]?=some y→decide (y.1=name)=false)∧t=⟨look [(2, .v (.string name)),(4, .bp 1 0),(6, .bp 2 0),(20, .sl 2 (n.entries.map Cf) none),(21, .v (.int .i64 ((n.entries.map Cf).length:Int))),(22, .v (.int .i64 (j:Int)))],⟨[Ay f,AE a,[.v (.int .i64 0), .v (.int .i64 0)]],[]⟩⟩) (n.entries.length) ((wk 3 0)) (⟨0,by omega,rfl,fun i y hi=>by omega,rfl⟩) ?_;rintro m t ⟨j,hj,rfl,ha,rfl⟩;refine w_ (BS (h:=e_ (q_ (?_))));refine A8 rfl (fun hb3=>?_) (fun hb3=>?_)
 ·have hc3:=bp hb3;obtain⟨hlt,x,hy,hrow, -⟩:=Cu Cf hc3;refine AN (q_ (Av (w_ (i_ (h:=l_ (h:=AZ (h:=s_ (h:=e_ (w_ (f_ (h:=l_ (h:=m_ (h:=AR (h:=e_ (?_)))))))))))))));refine A8 rfl (fun hb4=>?_) (fun hb4=>?_)
  ·have hc4:=bp hb4;refine w_ (f_ (h:=l_ (h:=f_ (h:=l_ (h:=AX (h:=s_ (h:=a_ (h:=e_ (A4 (AY (A7 (A7 (AY (A7 (?_)))))))))))))));refine AJ ?_;rw[show GW f a name=((a.1,x.2),true) by simp only[GW,e];rw[Hu hy (by simpa using hc4) ha]];rfl
  have hc4:=bp hb4;refine BM (B8 (t_ (AQ (BH (h:=m_ (h:=AP (?_)))))));refine AF ?_;refine⟨_,_,?_,⟨j+1,by omega,rfl,EP hy ha (by simpa using hc4),rfl⟩,(wk 3 0)⟩;omega
 have hc3:=bp hb3;have e3:=D0 Cf hj hc3;subst e3;refine BX (Aw (Aw (BY (t_ (w_ (AX (h:=s_ (h:=a_ (h:=e_ (A4 (?_)))))))))));refine AJ ?_;rw[show GW f a name=((0,0),false) by simp only[GW,e];rw[Hv ha]];rfl
theorem Rv(f:AU)(a:AA)(name:AD)(hf:FlsB f):AFn prog 96 [.agg (Ay f), .agg (AE a), .v (.string name)] (fun r=>r= .tup [.agg (AE (AB f a name).1), .v (.int .i64 (AB f a name).2)]):=by
 refine enter Tryz.func96 rfl rfl rfl rfl rfl 0 rfl ?_;refine w_ (b_ (h:=b_ (h:=AZ (h:=a_ (h:=e_ (q_ (w_ (l_ (h:=l_ (h:=?_))))))))));refine A6 rfl (AK (iL f a hf) ?_);rintro r rfl;refine a_ (h:=e_ (w_ (m_ (h:=BV (h:=e_ (?_))))));refine A8 rfl (fun hb1=>?_) (fun hb1=>?_)
 ·have hc1:=bp hb1;refine w_ (AX (h:=m_ (h:=s_ (h:=a_ (h:=e_ (A4 (A7 (?_))))))));refine AJ ?_;rw[iG hc1];rfl
 have hc1:=bp hb1;refine AN (w_ (l_ (h:=l_ (h:=m_ (h:=?_)))));refine A6 rfl (AK (iM f a name hf) ?_);rintro r rfl;refine m_ (h:=x_ (h:=x_ (h:=AZ (h:=s_ (h:=a_ (h:=e_ (q_ (w_ (m_ (h:=BG (h:=e_ (?_))))))))))));refine A8 rfl (fun hb2=>?_) (fun hb2=>?_)
 ·have hc2:=bp hb2;refine w_ (AX (h:=s_ (h:=a_ (h:=e_ (A4 (A7 (?_)))))));refine AJ ?_;rw[iH hc1 (by simpa using hc2)];rfl
 have hc2:=bp hb2;refine AN (w_ (l_ (h:=s_ (h:=a_ (h:=e_ (A4 (?_)))))));refine AJ ?_;rw[iJ hc1 (by simpa using hc2)];rfl
theorem WP(s:Spc)(hs:SpcB s):AFn prog 92 [.agg (Ao s)] (fun r=>r= .agg (AE (DY s))):=by
 refine enter Tryz.func92 rfl rfl rfl rfl rfl 0 rfl ?_;refine w_ (b_ (h:=AZ (h:=e_ (w_ (l_ (h:=AX (h:=?_)))))));refine A6 rfl (AK (QR s (0,1) hs) ?_);rintro r rfl;refine s_ (h:=e_ (A4 (?_)));refine AJ ?_;rfl
theorem Rw(s:Spc)(fl:Bool)(w:Wk)(hs:SpcB s):AFn prog 93 [.fp (EZ s fl w)] (fun r=>r= .v (.bool (AT s.files w.at_))):=by
 have hde:=Gk s.files w.at_;refine enter Tryz.func93 rfl rfl rfl rfl rfl 0 rfl ?_;refine w_ (a_ (h:=e_ (q_ (BO ([]) 16 (h:=AO 0 (h:=BC 1 (h:=AG 2 (h:=AG 3 (h:=AM 4 (h:=AO 5 (h:=BC 6 (h:=AG 7 (h:=AM 8 (h:=?_))))))))))))));refine Co 9 13 rfl rfl ?_ ?_
 ·refine AK (Hw s.files w.at_ hs.files) ?_;rintro r rfl;refine o_ (h:=?_);refine AO 10 (h:=Au 11 (h:=Au 12 (h:=?_)));refine c_ 13 rfl (BQ (by repeat constructor) ?_);refine o_ (h:=?_);refine Aj 14 rfl (Af rfl rfl rfl rfl rfl rfl (by repeat constructor) (by repeat constructor) ?_);refine o_ (h:=BK 15 (h:=z_ (h:=t_ (w_ (m_ (h:=m_ (h:=?_)))))));refine B5 true rfl rfl (fun hb1=>?_) (fun hb1=>?_)
  ·have hc1:=bp hb1;refine f_ (h:=l_ (h:=AR (h:=Ag (h:=a_ (h:=e_ (A4 (?_)))))));refine AJ ?_
   (rw[hde,hb1];rfl)
  have hc1:=bp hb1;refine A3 (h:=A3 (h:=A3 (h:=Ar (h:=a_ (h:=e_ (A4 (?_)))))));refine AJ ?_
  (rw[hde,hb1];rfl)
 refine BQ (by repeat constructor) ?_;refine o_ (h:=?_);refine c_ 9 rfl (AK (Hw s.files w.at_ hs.files) ?_);rintro r rfl;refine o_ (h:=AO 10 (h:=Au 11 (h:=Au 12 (h:=?_))));refine Aj 14 rfl (Af rfl rfl rfl rfl rfl rfl (by repeat constructor) (by repeat constructor) ?_);refine o_ (h:=BK 15 (h:=z_ (h:=t_ (w_ (m_ (h:=m_ (h:=?_)))))));refine B5 true rfl rfl (fun hb2=>?_) (fun hb2=>?_)
 ·have hc2:=bp hb2;refine f_ (h:=l_ (h:=AR (h:=Ag (h:=a_ (h:=e_ (A4 (?_)))))));refine AJ ?_
  first|(rw[hde,hb1];rfl)|(rw[hde,hb2];rfl)
 have hc2:=bp hb2;refine A3 (h:=A3 (h:=A3 (h:=Ar (h:=a_ (h:=e_ (A4 (?_)))))));refine AJ ?_
 first|(rw[hde,hb1];rfl)|(rw[hde,hb2];rfl)
theorem iN(s:Spc)(fl sl:Bool)(w:Wk)(hs:SpcN s)(hw:∀a,(Bp s a).1.size≤1000)(hn:w.name.size≤1000000):AFn prog 95 [.fp (EZ s fl w), .v (.bool sl)] (fun r=>r= .agg (Aq (GV s sl w))):=by
 refine enter Tryz.func95 rfl rfl rfl rfl rfl 0 rfl ?_;refine w_ (AZ (h:=e_ (q_ (BO ([(0,Aq Dh)]) 17 (h:=AO 0 (h:=BC 1 (h:=AG 2 (h:=AM 3 (h:=AO 4 (h:=BC 5 (h:=AG 6 (h:=AM 7 (h:=AO 8 (h:=BC 9 (h:=AG 10 (h:=AM 11 (h:=QG 12 (h:=AO 13 (h:=Hb 14 (h:=?_))))))))))))))))))));refine c_ 15 rfl (BQ (by repeat constructor) ?_);refine o_ (h:=?_);refine Aj 16 rfl (Af rfl rfl rfl rfl rfl rfl (by repeat constructor) (by repeat constructor) ?_);refine o_ (h:=z_ (h:=t_ (q_ (w_ (m_ (h:=k_ (h:=f_ (h:=l_ (h:=AR (h:=e_ (?_)))))))))));refine A8 rfl (fun hb1=>?_) (fun hb1=>?_)
 ·have hc1:=bp hb1;refine q_ (BO ([(0,Aq Dh)]) 12 (h:=AO 0 (h:=BC 1 (h:=AG 2 (h:=AM 3 (h:=AO 4 (h:=BC 5 (h:=AG 6 (h:=AM 7 (h:=AG 8 (h:=?_)))))))))));refine Aj 9 rfl (Af rfl rfl rfl rfl rfl rfl (by repeat constructor) (by repeat constructor) ?_);refine o_ (h:=AG 10 (h:=?_));refine Aj 11 rfl (Af rfl rfl rfl rfl rfl rfl (by repeat constructor) (by repeat constructor) ?_);refine o_ (h:=z_ (h:=t_ (q_ (BO ([(0,Aq Dh)]) 12 (h:=AO 0 (h:=BC 1 (h:=AG 2 (h:=AM 3 (h:=AG 4 (h:=?_))))))))));refine c_ 5 rfl (Fo rfl rfl rfl ?_);refine o_ (h:=?_);refine c_ 6 rfl (AK (RP hs w.at_) ?_);rintro r rfl;refine o_ (h:=AO 7 (h:=Au 8 (h:=Au 9 (h:=AG 10 (h:=?_)))));refine Aj 11 rfl (Af rfl rfl rfl rfl rfl rfl (by repeat constructor) (by repeat constructor) ?_);refine o_ (h:=z_ (h:=t_ (w_ (l_ (h:=s_ (h:=e_ (A4 (A7 (?_)))))))));refine AJ ?_;rw[show GV s sl w=⟨w.at_,⟨#[]⟩,w.at_, !w.missing,sl,(Bp s w.at_).1⟩ from if_pos hc1,hc1];rfl
 have hc1:=bp hb1;refine AN (q_ (w_ (f_ (h:=l_ (h:=e_ (?_))))));refine A8 rfl (fun hb2=>?_) (fun hb2=>?_)
 ·have hc2:=bp hb2;refine AQ (m_ (h:=k_ (h:=f_ (h:=l_ (h:=f_ (h:=s_ (h:=e_ (q_ (q_ (E4 12 (h:=AO 0 (h:=BC 1 (h:=AG 2 (h:=AM 3 (h:=AG 4 (h:=AM 5 (h:=?_)))))))))))))))));refine c_ 6 rfl (AK (RP hs w.dir) ?_);rintro r rfl;refine o_ (h:=AO 7 (h:=Au 8 (h:=Au 9 (h:=BK 10 (h:=BK 11 (h:=z_ (h:=t_ (w_ (m_ (h:=e_ (?_)))))))))));refine A8 rfl (fun hb3=>?_) (fun hb3=>?_)
  ·have hc3:=bp hb3;refine AQ (m_ (h:=f_ (h:=l_ (h:=?_))));refine A6 rfl (AK (WO (Bp s w.dir).1 w.name (by have:=hw w.dir;omega) hn) ?_);rintro r rfl;refine f_ (h:=s_ (h:=e_ (w_ (l_ (h:=s_ (h:=e_ (A4 (?_))))))));refine AJ ?_;rw[show GV s sl w=⟨w.dir,w.name,w.at_, !w.missing,sl,DX (Bp s w.dir).1 w.name⟩ by unfold GV;rw[if_neg hc1,if_neg (by simp[hc2]),if_pos hc3]];rfl
  have hc3:=bp hb3;refine AN (w_ (l_ (h:=s_ (h:=e_ (A4 (?_))))));refine AJ ?_;rw[show GV s sl w=⟨w.dir,w.name,w.at_, !w.missing,sl,⟨#[]⟩⟩ by unfold GV;rw[if_neg hc1,if_neg (by simp[hc2]),if_neg (by simp[hc3])]];rfl
 have hc2:=bp hb2;refine AN (q_ (q_ (E4 12 (h:=AO 0 (h:=BC 1 (h:=AG 2 (h:=AM 3 (h:=AG 4 (h:=AM 5 (h:=?_))))))))));refine c_ 6 rfl (AK (RP hs w.dir) ?_);rintro r rfl;refine o_ (h:=AO 7 (h:=Au 8 (h:=Au 9 (h:=BK 10 (h:=BK 11 (h:=z_ (h:=t_ (w_ (m_ (h:=e_ (?_)))))))))));refine A8 rfl (fun hb4=>?_) (fun hb4=>?_)
 ·have hc4:=bp hb4;refine AQ (m_ (h:=f_ (h:=l_ (h:=?_))));refine A6 rfl (AK (WO (Bp s w.dir).1 w.name (by have:=hw w.dir;omega) hn) ?_);rintro r rfl;refine f_ (h:=s_ (h:=e_ (w_ (l_ (h:=s_ (h:=e_ (A4 (?_))))))));refine AJ ?_;rw[show GV s sl w=⟨w.dir,w.name,(0,0), !w.missing,sl,DX (Bp s w.dir).1 w.name⟩ by unfold GV;rw[if_neg hc1,if_pos (by simp[hc2]),if_pos hc4]];rfl
 have hc4:=bp hb4;refine AN (w_ (l_ (h:=s_ (h:=e_ (A4 (?_))))));refine AJ ?_;rw[show GV s sl w=⟨w.dir,w.name,(0,0), !w.missing,sl,⟨#[]⟩⟩ by unfold GV;rw[if_neg hc1,if_pos (by simp[hc2]),if_neg (by simp[hc4])]];rfl
end
def PC(s:Spc)(tg:AD)(rest:List AD)(w:Wk):Wk:=⟨Cq tg++rest,if Cx tg=true then DY s else w.at_,if Cx tg=true then(0,0)else w.dir,if Cx tg=true then⟨#[]⟩else w.name,w.missing,w.links+1⟩
theorem PD(s:Spc)(fl:Bool)(w:Wk):Ac 0 0 (EZ s fl w)=true:=rfl
section
theorem iO(s:Spc)(fl:Bool)(w:Wk)(tg:AD)(rest:List AD)(hs:SpcB s)(h8:w.links≤8)(htg:tg.size≤60000)(hrl:rest.length≤500000):OA prog 136 [.bp 0 0, .v (.string tg), .sl 1 (rest.map DF) none] (EZ s fl w) (fun r row'=>(w.links=8∧r= .v (.int .i64 40)∧row'=EZ s fl w)∨(w.links≠8∧r= .v (.int .i64 0)∧row'=EZ s fl (PC s tg rest w))):=by
 have hpl:=Lj tg;refine enter Tryz.func136 rfl rfl rfl rfl rfl 1 rfl ?_;refine w_ (a_ (h:=e_ (q_ (w_ (m_ (h:=k_ (h:=f_ (h:=l_ (h:=AR (h:=e_ (?_)))))))))));refine A8 rfl (fun hb1=>?_) (fun hb1=>?_)
 ·have hc1:=bp hb1;refine w_ (a_ (h:=e_ (A4 (A7 (?_)))));refine Am none (h5:=(A9 _)) (h6:=⟨_,rfl,rfl, .inl ⟨by omega,rfl,rfl⟩⟩)
 have hc1:=bp hb1;refine AN (w_ (m_ (h:=k_ (h:=f_ (h:=l_ (h:=?_))))));refine A6 rfl (KL rfl rfl (by omega) ?_);refine k_ (h:=f_ (h:=s_ (h:=e_ (w_ (m_ (h:=?_))))));refine A6 rfl (AK (WM tg htg) ?_);rintro r rfl;refine m_ (h:=x_ (h:=x_ (h:=x_ (h:=a_ (h:=a_ (h:=a_ (h:=e_ (w_ (m_ (h:=m_ (h:=m_ (h:=n_ (h:=m_ (h:=n_ (h:=?_)))))))))))))));refine iF rfl rfl rfl rfl rfl rfl rfl rfl rfl rfl (by simp;omega) ?_;refine k_ (h:=f_ (h:=s_ (h:=e_ (q_ (w_ (m_ (h:=?_)))))));refine A6 rfl (AK (iK tg) ?_);rintro r rfl;refine e_ (?_);refine A8 rfl (fun hb2=>?_) (fun hb2=>?_)
 ·have hc2:=bp hb2;refine AQ (m_ (h:=m_ (h:=m_ (h:=m_ (h:=k_ (h:=f_ (h:=l_ (h:=?_))))))));refine A6 rfl (AK (WP s hs) ?_);rintro r rfl;refine AX (h:=k_ (h:=f_ (h:=s_ (h:=k_ (h:=f_ (h:=s_ (h:=k_ (h:=f_ (h:=s_ (h:=e_ (w_ (a_ (h:=e_ (A4 (?_)))))))))))))));refine Am none (h5:=(A9 _)) (h6:=⟨_,rfl,rfl, .inr ⟨by omega,rfl,by simp only[EZ,PC,if_pos hc2,List.map_append];rfl⟩⟩)
 have hc2:=bp hb2;refine AN (w_ (a_ (h:=e_ (A4 (?_)))));refine Am none (h5:=(A9 _)) (h6:=⟨_,rfl,rfl, .inr ⟨by omega,rfl,by simp only[EZ,PC,hc2,if_neg (show¬false=true by simp),List.map_append];rfl⟩⟩)
theorem iP(s:Spc)(fl:Bool)(w:Wk)(p:AD)(ps:List AD)(hps:w.ps=p::ps)(hs:SpcB s)(hv:SpcV s)(h8:w.links≤8)(hrl:ps.length≤500000):OA prog 94 [.bp 0 0] (EZ s fl w) (fun r row'=>(∃e,EY s fl p ps w= .inl e∧e≠0∧r= .v (.int .i64 e)∧row'=EZ s fl w)∨∃w',EY s fl p ps w= .inr w'∧r= .v (.int .i64 0)∧row'=EZ s fl w'):=by
 obtain⟨ps0,a,dr,nm,mi,lk⟩:=w;simp only at hps h8;subst hps;have hml:(ps.map DF).length=ps.length:=by simp
 have htg:=N9 hv.files (AB s.files a p).1;refine enter Tryz.func94 rfl rfl rfl rfl rfl 1 rfl ?_;refine w_ (a_ (h:=e_ (q_ (BO ([(0,EZ s fl ⟨p::ps,a,dr,nm,mi,lk⟩)]) 13 (h:=AO 0 (h:=BC 1 (h:=AG 2 (h:=AM 3 (h:=?_)))))))));refine Bz 4 rfl (fun _ hS=>Ci (n:=0) rfl rfl rfl rfl ⟨rfl,rfl⟩) ?_;refine AM 5 (h:=AO 6 (h:=BC 7 (h:=AG 8 (h:=AM 9 (h:=?_)))));refine Bz 10 rfl (fun _ hS=>Px (l:=1) rfl rfl rfl (by simp) ⟨rfl,rfl⟩) ?_;refine BK 11 (h:=BK 12 (h:=z_ (h:=t_ (q_ (w_ (m_ (h:=?_)))))));refine A6 rfl (Cn 1 rfl (.cons _ _ _ _ _ rfl (A9 _) .nil) (Rw s fl ⟨p::ps,a,dr,nm,mi,lk⟩ hs) ?_);rintro r rfl;refine⟨rfl,?_⟩;refine BG (h:=e_ (?_));refine A8 rfl (fun hb1=>?_) (fun hb1=>?_)
 ·have hc1:=bp hb1;refine w_ (a_ (h:=e_ (A4 (A7 (?_)))));refine Am none (h5:=(A9 _)) (h6:=⟨_,rfl,rfl, .inl ⟨20,by unfold EY;rw[if_pos hc1],by decide,rfl,rfl⟩⟩)
 have hc1:=bp hb1;refine AN (q_ (w_ (m_ (h:=n_ (h:=Ck (h:=e_ (?_)))))));refine A8 rfl (fun hb2=>?_) (fun hb2=>?_)
 ·have hc2:=bp hb2;refine w_ (a_ (h:=e_ (A4 (A7 (?_)))));refine Am none (h5:=(A9 _)) (h6:=⟨_,rfl,rfl, .inl ⟨36,by unfold EY;rw[if_neg (by simp[hc1]),if_pos (by omega)],by decide,rfl,rfl⟩⟩)
 have hc2:=bp hb2;refine AN (q_ (w_ (m_ (h:=e_ (Av (q_ (Av (q_ (Av (q_ (q_ (w_ (AR (h:=a_ (h:=e_ (?_))))))))))))))));refine A8 rfl (fun hb3=>?_) (fun hb3=>?_)
 ·have hc3:=bp hb3;refine BX (Aw (Aw (BY (t_ (?_)))));refine L6 (fun h=>∃x y,h.bx=[[.sl 2 (s.files.map C7) none, .sl 3 (s.mounts.map D2) none, .sl 1 ((p::ps).map DF) none,x,y, .v (.int .i64 dr.1), .v (.int .i64 dr.2), .v (.string nm), .v (.bool mi), .v (.bool fl), .v (.int .i64 (lk:Int))]]) 18 (by kernel_rfl) ?_;refine CQ (i:=0) rfl rfl (by kernel_rfl) (by first|rfl|exact Ap rfl rfl (C0 ‹_›)|exact Ap rfl rfl (C1 ‹_›)|exact Ap rfl rfl (by simp[*])) (fun h0 hS=>FT rfl ⟨rfl,rfl⟩) ⟨_,_,rfl⟩ ?_;refine CQ (i:=1) rfl rfl (by kernel_rfl) (by first|rfl|exact Ap rfl rfl (C0 ‹_›)|exact Ap rfl rfl (C1 ‹_›)|exact Ap rfl rfl (by simp[*])) (fun h0 hS=>FT rfl ⟨rfl,rfl⟩) ⟨_,_,rfl⟩ ?_;refine CQ (i:=2) rfl rfl (by kernel_rfl) (by first|rfl|exact Ap rfl rfl (C0 ‹_›)|exact Ap rfl rfl (C1 ‹_›)|exact Ap rfl rfl (by simp[*])) (fun h0 hS=>Hs rfl ⟨rfl,rfl⟩) ⟨_,_,rfl⟩ ?_;refine CQ (i:=3) rfl rfl (by kernel_rfl) (by first|rfl|exact Ap rfl rfl (C0 ‹_›)|exact Ap rfl rfl (C1 ‹_›)|exact Ap rfl rfl (by simp[*])) (fun h0 hS=>FD rfl ⟨rfl,rfl⟩) ⟨_,_,rfl⟩ ?_;refine CQ (i:=4) rfl rfl (by kernel_rfl) (by first|rfl|exact Ap rfl rfl (C0 ‹_›)|exact Ap rfl rfl (C1 ‹_›)|exact Ap rfl rfl (by simp[*])) (fun h0 hS=>by obtain⟨x,y,e⟩:=hS;exact Fo (row:=[.sl 2 (s.files.map C7) none, .sl 3 (s.mounts.map D2) none, .sl 1 ((p::ps).map DF) none,x,y, .v (.int .i64 dr.1), .v (.int .i64 dr.2), .v (.string nm), .v (.bool mi), .v (.bool fl), .v (.int .i64 (lk:Int))]) rfl (by rw[e];rfl) rfl (show _=AV.agg (Ao s)∧_ from⟨rfl,rfl⟩)) ⟨_,_,rfl⟩ ?_;refine CQ (i:=5) rfl rfl (by kernel_rfl) (by first|rfl|exact Ap rfl rfl (C0 ‹_›)|exact Ap rfl rfl (C1 ‹_›)|exact Ap rfl rfl (by simp[*])) (fun h0 hS=>FT rfl ⟨rfl,rfl⟩) ⟨_,_,rfl⟩ ?_;refine CQ (i:=6) rfl rfl (by kernel_rfl) (by first|rfl|exact Ap rfl rfl (C0 ‹_›)|exact Ap rfl rfl (C1 ‹_›)|exact Ap rfl rfl (by simp[*])) (fun h0 hS=>Hs rfl ⟨rfl,rfl⟩) ⟨_,_,rfl⟩ ?_;refine CQ (i:=7) rfl rfl (by kernel_rfl) (by first|rfl|exact Ap rfl rfl (C0 ‹_›)|exact Ap rfl rfl (C1 ‹_›)|exact Ap rfl rfl (by simp[*])) (fun h0 hS=>FD rfl ⟨rfl,rfl⟩) ⟨_,_,rfl⟩ ?_;refine CQ (i:=8) rfl rfl (by kernel_rfl) (by first|rfl|exact Ap rfl rfl (C0 ‹_›)|exact Ap rfl rfl (C1 ‹_›)|exact Ap rfl rfl (by simp[*])) (fun h0 hS=>by obtain⟨x,y,e⟩:=hS;exact Fo (row:=[.sl 2 (s.files.map C7) none, .sl 3 (s.mounts.map D2) none, .sl 1 ((p::ps).map DF) none,x,y, .v (.int .i64 dr.1), .v (.int .i64 dr.2), .v (.string nm), .v (.bool mi), .v (.bool fl), .v (.int .i64 (lk:Int))]) rfl (by rw[e];rfl) rfl (show _=AV.agg (Ao s)∧_ from⟨rfl,rfl⟩)) ⟨_,_,rfl⟩ ?_;refine CQ (i:=9) rfl rfl (by kernel_rfl) (by first|rfl|exact Ap rfl rfl (C0 ‹_›)|exact Ap rfl rfl (C1 ‹_›)|exact Ap rfl rfl (by simp[*])) (fun h0 hS=>FT rfl ⟨rfl,rfl⟩) ⟨_,_,rfl⟩ ?_;refine CQ (i:=10) rfl rfl (by kernel_rfl) (by first|rfl|exact Ap rfl rfl (C0 ‹_›)|exact Ap rfl rfl (C1 ‹_›)|exact Ap rfl rfl (by simp[*])) (fun h0 hS=>Hs rfl ⟨rfl,rfl⟩) ⟨_,_,rfl⟩ ?_;refine CQ (i:=11) rfl rfl (by kernel_rfl) (by first|rfl|exact Ap rfl rfl (C0 ‹_›)|exact Ap rfl rfl (C1 ‹_›)|exact Ap rfl rfl (by simp[*])) (fun h0 hS=>FD rfl ⟨rfl,rfl⟩) ⟨_,_,rfl⟩ ?_
  first|refine c_ 12 rfl (DK rfl rfl rfl ?_)|refine c_ 12 rfl (GE rfl rfl rfl ?_)|refine c_ 12 rfl (KK rfl rfl ?_)|refine c_ 12 rfl (MF rfl rfl ?_)|refine c_ 12 rfl (Fo rfl rfl rfl ?_)
  refine⟨.inr ⟨_,_,rfl⟩,?_⟩;refine c_ 13 rfl (AK (eV hs hv a) ?_);rintro r rfl;refine⟨.inr ⟨_,_,rfl⟩,?_⟩;refine c_ 14 rfl (AK (QR s (Dq s (s.mounts.length+1) a) hs) ?_);rintro r rfl;refine⟨.inr ⟨_,_,rfl⟩,?_⟩;refine CQ (i:=15) rfl rfl (by kernel_rfl) (by first|rfl|exact Ap rfl rfl (C0 ‹_›)|exact Ap rfl rfl (C1 ‹_›)|exact Ap rfl rfl (by simp[*])) (fun h0 hS=>Hs rfl ⟨rfl,rfl⟩) ⟨_,_,rfl⟩ ?_;refine CQ (i:=16) rfl rfl (by kernel_rfl) (by first|rfl|exact Ap rfl rfl (C0 ‹_›)|exact Ap rfl rfl (C1 ‹_›)|exact Ap rfl rfl (by simp[*])) (fun h0 hS=>FD rfl ⟨rfl,rfl⟩) ⟨_,_,rfl⟩ ?_;refine Aj 17 rfl (Af rfl rfl rfl rfl rfl rfl (by repeat constructor) (by repeat constructor) ?_);refine⟨.inr ⟨_,_,rfl⟩,?_⟩;refine z_ (h:=B8 (t_ (q_ (w_ (m_ (h:=m_ (h:=m_ (h:=m_ (h:=AX (h:=k_ (h:=f_ (h:=s_ (h:=k_ (h:=f_ (h:=s_ (h:=k_ (h:=f_ (h:=s_ (h:=e_ (w_ (a_ (h:=e_ (A4 (?_))))))))))))))))))))))));refine A7 (AY (A7 (?_)));refine Am none (h5:=(A9 _)) (h6:=⟨_,rfl,rfl, .inr ⟨⟨ps,Cv s s.mounts.length (Dq s (s.mounts.length+1) a),(0,0),⟨#[]⟩,mi,lk⟩,by unfold EY;rw[if_neg (by simp[hc1]),if_neg (by omega),if_pos hc3],rfl,rfl⟩⟩)
 have hc3:=bp hb3;refine AN (w_ (AR (h:=a_ (h:=e_ (?_)))));refine A8 rfl (fun hb4=>?_) (fun hb4=>?_)
 ·have hc4:=bp hb4;refine BX (Aw (MC rfl (Aw (BY (t_ (q_ (w_ (m_ (h:=m_ (h:=m_ (h:=m_ (h:=AX (h:=k_ (h:=f_ (h:=s_ (h:=k_ (h:=f_ (h:=s_ (h:=k_ (h:=f_ (h:=s_ (h:=e_ (w_ (?_))))))))))))))))))))))));refine a_ (h:=e_ (A4 (A7 (AY (A7 (?_))))));refine Am none (h5:=(A9 _)) (h6:=⟨_,rfl,rfl, .inr ⟨⟨ps,a,(0,0),⟨#[]⟩,mi,lk⟩,by unfold EY;rw[if_neg (by simp[hc1]),if_neg (by omega),if_neg hc3,if_pos hc4],rfl,rfl⟩⟩)
 have hc4:=bp hb4;refine AN (BX (MC rfl (Aw (MC rfl (Aw (BY (t_ (q_ (w_ (m_ (h:=?_)))))))))));refine A6 rfl (AK (g8 p) ?_);rintro r rfl;refine BG (h:=e_ (?_));refine A8 rfl (fun hb5=>?_) (fun hb5=>?_)
 ·have hc5:=bp hb5;refine w_ (a_ (h:=e_ (A4 (A7 (?_)))));refine Am none (h5:=(A9 _)) (h6:=⟨_,rfl,rfl, .inl ⟨2,by unfold EY;rw[if_neg (by simp[hc1]),if_neg (by omega),if_neg hc3,if_neg hc4,if_pos hc5],by decide,rfl,rfl⟩⟩)
 have hc5:=bp hb5;refine AN (?_);refine Jp (⟨look [(0, .bp 0 0),(3, .v (.string p)),(4, .sl 1 (ps.map DF) none),(5, .bp 1 0),(6, .v (.int .i64 (AB s.files a p).2))],⟨[EZ s fl ⟨p::ps,a,dr,nm,mi,lk⟩,AE (AB s.files a p).1],[]⟩⟩) ?_ ?_
 ·skip
  refine BO ([(0,EZ s fl ⟨p::ps,a,dr,nm,mi,lk⟩)]) 17 (h:=AO 0 (h:=BC 1 (h:=AG 2 (h:=AG 3 (h:=AM 4 (h:=AO 5 (h:=BC 6 (h:=AG 7 (h:=AM 8 (h:=AO 9 (h:=?_)))))))))));refine Co 10 14 rfl rfl ?_ ?_
  ·refine AK (Rv s.files a p hs.files) ?_;rintro r rfl;refine o_ (h:=?_);refine AO 11 (h:=Au 12 (h:=Au 13 (h:=?_)));refine c_ 14 rfl (BQ (by repeat constructor) ?_);refine o_ (h:=?_);refine Aj 15 rfl (Af rfl rfl rfl rfl rfl rfl (by repeat constructor) (by repeat constructor) ?_);refine o_ (h:=BK 16 (h:=z_ (h:=?_)));refine AF ?_
   first|(exfalso;first|contradiction|omega)|exact Az 2 0 rfl rfl rfl rfl (by repeat (first|exact Sub.nil|refine B0 rfl rfl ?_|refine B2 ?_|refine B3 rfl ?_|refine B4 rfl ?_|(apply Sub.of;(focus exact rfl);(focus exact LeA.of_eq (vb (by rfl)));(focus exact rfl))))
  refine BQ (by repeat constructor) ?_;refine o_ (h:=?_);refine c_ 10 rfl (AK (Rv s.files a p hs.files) ?_);rintro r rfl;refine o_ (h:=AO 11 (h:=Au 12 (h:=Au 13 (h:=?_))));refine Aj 15 rfl (Af rfl rfl rfl rfl rfl rfl (by repeat constructor) (by repeat constructor) ?_);refine o_ (h:=BK 16 (h:=z_ (h:=?_)));refine AF ?_
  first|(exfalso;first|contradiction|omega)|exact Az 2 0 rfl rfl rfl rfl (by repeat (first|exact Sub.nil|refine B0 rfl rfl ?_|refine B2 ?_|refine B3 rfl ?_|refine B4 rfl ?_|(apply Sub.of;(focus exact rfl);(focus exact LeA.of_eq (vb (by rfl)));(focus exact rfl))))
 skip
 refine q_ (w_ (m_ (h:=BV (h:=e_ (?_)))));refine A8 rfl (fun hb6=>?_) (fun hb6=>?_)
 ·have hc6:=bp hb6;refine q_ (w_ (m_ (h:=n_ (h:=Ck (h:=e_ (?_))))));refine A8 rfl (fun hb7=>?_) (fun hb7=>?_)
  ·have hc7:=bp hb7;have hps:ps≠[]:=fun e=>by rw[e]at hml hc7;simp at hc7
   refine w_ (a_ (h:=e_ (A4 (A7 (A7 (?_))))));refine Am none (h5:=(A9 _)) (h6:=⟨_,rfl,rfl, .inl ⟨2,by unfold EY;rw[if_neg (by simp[hc1]),if_neg (by omega),if_neg hc3,if_neg hc4,if_neg (by simp[hc5]),if_pos hc6,if_pos hps],by decide,rfl,rfl⟩⟩)
  have hc7:=bp hb7;have hps:¬ps≠[]:=fun e=>e (Dd (by omega));refine AN (w_ (m_ (h:=m_ (h:=m_ (h:=m_ (h:=m_ (h:=m_ (h:=k_ (h:=f_ (h:=l_ (h:=m_ (h:=k_ (h:=f_ (h:=s_ (h:=k_ (h:=f_ (h:=s_ (h:=k_ (h:=f_ (h:=s_ (h:=k_ (h:=f_ (h:=s_ (h:=?_))))))))))))))))))))))));refine e_ (w_ (a_ (h:=e_ (A4 (A7 (?_))))));refine Am none (h5:=(A9 _)) (h6:=⟨_,rfl,rfl, .inr ⟨⟨ps,a,a,p,true,lk⟩,by unfold EY;rw[if_neg (by simp[hc1]),if_neg (by omega),if_neg hc3,if_neg hc4,if_neg (by simp[hc5]),if_pos hc6,if_neg hps],rfl,rfl⟩⟩)
 have hc6:=bp hb6;refine AN (?_);refine Jp (⟨look [(0, .bp 0 0),(3, .v (.string p)),(4, .sl 1 (ps.map DF) none),(5, .bp 1 0),(7, .bp 2 0)],⟨[EZ s fl ⟨p::ps,a,dr,nm,mi,lk⟩,AE (AB s.files a p).1,Ak (Ah s.files (AB s.files a p).1)],[]⟩⟩) ?_ ?_
 ·skip
  refine BO ([(0,EZ s fl ⟨p::ps,a,dr,nm,mi,lk⟩),(1,AE (AB s.files a p).1)]) 13 (h:=AO 0 (h:=BC 1 (h:=AG 2 (h:=AG 3 (h:=AM 4 (h:=AM 5 (h:=?_)))))));refine Co 6 10 rfl rfl ?_ ?_
  ·refine AK (Hw s.files (AB s.files a p).1 hs.files) ?_;rintro r rfl;refine o_ (h:=?_);refine AO 7 (h:=Au 8 (h:=Au 9 (h:=?_)));refine c_ 10 rfl (BQ (by repeat constructor) ?_);refine o_ (h:=?_);refine Aj 11 rfl (Af rfl rfl rfl rfl rfl rfl (by repeat constructor) (by repeat constructor) ?_);refine o_ (h:=BK 12 (h:=z_ (h:=?_)));refine AF ?_
   first|(exfalso;first|contradiction|omega)|exact Az 3 0 rfl rfl rfl rfl (by repeat (first|exact Sub.nil|refine B0 rfl rfl ?_|refine B2 ?_|refine B3 rfl ?_|refine B4 rfl ?_|(apply Sub.of;(focus exact rfl);(focus exact LeA.of_eq (vb (by rfl)));(focus exact rfl))))
  refine BQ (by repeat constructor) ?_;refine o_ (h:=?_);refine c_ 6 rfl (AK (Hw s.files (AB s.files a p).1 hs.files) ?_);rintro r rfl;refine o_ (h:=AO 7 (h:=Au 8 (h:=Au 9 (h:=?_))));refine Aj 11 rfl (Af rfl rfl rfl rfl rfl rfl (by repeat constructor) (by repeat constructor) ?_);refine o_ (h:=BK 12 (h:=z_ (h:=?_)));refine AF ?_
  first|(exfalso;first|contradiction|omega)|exact Az 3 0 rfl rfl rfl rfl (by repeat (first|exact Sub.nil|refine B0 rfl rfl ?_|refine B2 ?_|refine B3 rfl ?_|refine B4 rfl ?_|(apply Sub.of;(focus exact rfl);(focus exact LeA.of_eq (vb (by rfl)));(focus exact rfl))))
 skip
 refine q_ (?_);refine Jp (⟨look [(0, .bp 0 0),(3, .v (.string p)),(4, .sl 1 (ps.map DF) none),(5, .bp 1 0),(7, .bp 2 0),(122, .v (.bool (decide ((Ah s.files (AB s.files a p).1).kind=3)&&(decide (0<((ps.map DF).length:Int))||fl))))],⟨[EZ s fl ⟨p::ps,a,dr,nm,mi,lk⟩,AE (AB s.files a p).1,Ak (Ah s.files (AB s.files a p).1)],[]⟩⟩) ?_ ?_
 ·skip
  refine AQ (f_ (h:=l_ (h:=AR (h:=m_ (h:=?_)))));refine B5 true rfl rfl (fun hb8=>?_) (fun hb8=>?_)
  ·have hc8:=bp hb8;refine m_ (h:=n_ (h:=Ck (h:=m_ (h:=?_))));refine B5 false rfl rfl (fun hb9=>?_) (fun hb9=>?_)
   ·have hc9:=bp hb9;refine A3 (h:=A3 (h:=A3 (h:=A3 (h:=Ag (h:=Ag (h:=AP (?_)))))));refine AF ?_
    first|(exfalso;first|contradiction|omega)|exact Az 3 0 rfl rfl rfl rfl (by repeat (first|exact Sub.nil|refine B0 rfl rfl ?_|refine B2 ?_|refine B3 rfl ?_|refine B4 rfl ?_|(apply Sub.of;(focus exact rfl);(focus exact LeA.of_eq (vb (by first|(rw[hb8];rfl)|(rw[hb8,hb9];rfl))));(focus exact rfl))))
   have hc9:=bp hb9;refine m_ (h:=k_ (h:=f_ (h:=l_ (h:=Ar (h:=Ag (h:=AP (?_)))))));refine AF ?_
   first|(exfalso;first|contradiction|omega)|exact Az 3 0 rfl rfl rfl rfl (by repeat (first|exact Sub.nil|refine B0 rfl rfl ?_|refine B2 ?_|refine B3 rfl ?_|refine B4 rfl ?_|(apply Sub.of;(focus exact rfl);(focus exact LeA.of_eq (vb (by first|(rw[hb8];rfl)|(rw[hb8,hb9];rfl))));(focus exact rfl))))
  have hc8:=bp hb8;refine A3 (h:=A3 (h:=A3 (h:=A3 (h:=Cz (h:=Cz (h:=Cz (h:=Cz (h:=A3 (h:=Ar (h:=AP (?_)))))))))));refine AF ?_
  first|(exfalso;first|contradiction|omega)|exact Az 3 0 rfl rfl rfl rfl (by repeat (first|exact Sub.nil|refine B0 rfl rfl ?_|refine B2 ?_|refine B3 rfl ?_|refine B4 rfl ?_|(apply Sub.of;(focus exact rfl);(focus exact LeA.of_eq (vb (by first|(rw[hb8];rfl)|(rw[hb8,hb9];rfl))));(focus exact rfl))))
 skip
 refine A8 rfl (fun hb10=>?_) (fun hb10=>?_)
 ·have hc10:=bp hb10
  have hlk:(Ah s.files (AB s.files a p).1).kind=3∧(ps≠[]∨fl=true):=by
   simp only[Bool.and_eq_true,Bool.or_eq_true,decide_eq_true_eq]at hc10;exact⟨hc10.1,hc10.2.imp (fun h e=>by rw[e]at h;simp at h) id⟩
  refine w_ (m_ (h:=f_ (h:=l_ (h:=m_ (h:=?_)))));refine A6 rfl (Q4 0 rfl (by repeat (first|exact ArgsB.nil|refine ArgsB.cons _ _ _ _ _ rfl rfl ?_)) rfl rfl (iO s fl ⟨p::ps,a,dr,nm,mi,lk⟩ (Ah s.files (AB s.files a p).1).target ps hs h8 (by omega) hrl) ?_);rintro r row2 (⟨h9,rfl,rfl⟩|⟨h9,rfl,rfl⟩)
  ·refine⟨PD _ _ _,rfl,_,(by repeat constructor),?_⟩;refine a_ (h:=e_ (A4 (A7 (?_))));refine Am none (h5:=(A9 _)) (h6:=⟨_,rfl,rfl, .inl ⟨40,by unfold EY;rw[if_neg (by simp[hc1]),if_neg (by omega),if_neg hc3,if_neg hc4,if_neg (by simp[hc5]),if_neg (by simp[hc6]),if_pos hlk,if_pos h9],by decide,rfl,rfl⟩⟩)
  refine⟨PD _ _ _,rfl,_,(by repeat constructor),?_⟩;refine a_ (h:=e_ (A4 (A7 (?_))));refine Am none (h5:=(A9 _)) (h6:=⟨_,rfl,rfl, .inr ⟨PC s (Ah s.files (AB s.files a p).1).target ps ⟨p::ps,a,dr,nm,mi,lk⟩,by unfold EY;rw[if_neg (by simp[hc1]),if_neg (by omega),if_neg hc3,if_neg hc4,if_neg (by simp[hc5]),if_neg (by simp[hc6]),if_pos hlk,if_neg h9];rfl,rfl,rfl⟩⟩)
 have hc10:=bp hb10
 have hlk:¬((Ah s.files (AB s.files a p).1).kind=3∧(ps≠[]∨fl=true)):=fun h=>by
  rw[decide_eq_true h.1,Bool.true_and,Bool.or_eq_false_iff]at hc10;rcases h.2 with e|e
  ·exact e (Dd (by have:=of_decide_eq_false hc10.1;omega))
  rw[hc10.2]at e;cases e
 refine AN (w_ (m_ (h:=m_ (h:=m_ (h:=m_ (h:=m_ (h:=k_ (h:=f_ (h:=l_ (h:=m_ (h:=k_ (h:=f_ (h:=s_ (h:=k_ (h:=f_ (h:=s_ (h:=k_ (h:=f_ (h:=s_ (h:=e_ (q_ (?_))))))))))))))))))))));refine L6 (fun h=>∃x y r,h.bx=[[.sl 2 (s.files.map C7) none, .sl 3 (s.mounts.map D2) none, .sl 1 (ps.map DF) none,x,y, .v (.int .i64 a.1), .v (.int .i64 a.2), .v (.string p), .v (.bool mi), .v (.bool fl), .v (.int .i64 (lk:Int))],AE (AB s.files a p).1]++r) 10 (by kernel_rfl) ?_;refine CQ (i:=0) rfl rfl (by kernel_rfl) (by first|rfl|exact Ap rfl rfl (C0 ‹_›)|exact Ap rfl rfl (C1 ‹_›)|exact Ap rfl rfl (by simp[*])) (fun h0 hS=>FT rfl ⟨rfl,rfl⟩) ⟨_,_,_,rfl⟩ ?_;refine CQ (i:=1) rfl rfl (by kernel_rfl) (by first|rfl|exact Ap rfl rfl (C0 ‹_›)|exact Ap rfl rfl (C1 ‹_›)|exact Ap rfl rfl (by simp[*])) (fun h0 hS=>FT rfl ⟨rfl,rfl⟩) ⟨_,_,_,rfl⟩ ?_;refine CQ (i:=2) rfl rfl (by kernel_rfl) (by first|rfl|exact Ap rfl rfl (C0 ‹_›)|exact Ap rfl rfl (C1 ‹_›)|exact Ap rfl rfl (by simp[*])) (fun h0 hS=>Hs rfl ⟨rfl,rfl⟩) ⟨_,_,_,rfl⟩ ?_;refine CQ (i:=3) rfl rfl (by kernel_rfl) (by first|rfl|exact Ap rfl rfl (C0 ‹_›)|exact Ap rfl rfl (C1 ‹_›)|exact Ap rfl rfl (by simp[*])) (fun h0 hS=>FD rfl ⟨rfl,rfl⟩) ⟨_,_,_,rfl⟩ ?_;refine CQ (i:=4) rfl rfl (by kernel_rfl) (by first|rfl|exact Ap rfl rfl (C0 ‹_›)|exact Ap rfl rfl (C1 ‹_›)|exact Ap rfl rfl (by simp[*])) (fun h0 hS=>by obtain⟨x,y,r,e⟩:=hS;exact Fo (row:=[.sl 2 (s.files.map C7) none, .sl 3 (s.mounts.map D2) none, .sl 1 (ps.map DF) none,x,y, .v (.int .i64 a.1), .v (.int .i64 a.2), .v (.string p), .v (.bool mi), .v (.bool fl), .v (.int .i64 (lk:Int))]) rfl (by rw[e];rfl) rfl (show _=AV.agg (Ao s)∧_ from⟨rfl,rfl⟩)) ⟨_,_,_,rfl⟩ ?_
 first|refine CQ (i:=5) rfl rfl (by kernel_rfl) (by first|rfl|exact Ap rfl rfl (C0 ‹_›)|exact Ap rfl rfl (C1 ‹_›)|exact Ap rfl rfl (by simp[*])) (fun h0 hS=>by obtain⟨x,y,r,e⟩:=hS;exact Fo (row:=[.sl 2 (s.files.map C7) none, .sl 3 (s.mounts.map D2) none, .sl 1 (ps.map DF) none,x,y, .v (.int .i64 a.1), .v (.int .i64 a.2), .v (.string p), .v (.bool mi), .v (.bool fl), .v (.int .i64 (lk:Int))]) rfl (by rw[e];rfl) rfl (show _=AV.agg (Ao s)∧_ from⟨rfl,rfl⟩)) ⟨_,_,_,rfl⟩ ?_|refine CQ (i:=5) rfl rfl (by kernel_rfl) (by first|rfl|exact Ap rfl rfl (C0 ‹_›)|exact Ap rfl rfl (C1 ‹_›)|exact Ap rfl rfl (by simp[*])) (fun h0 hS=>by obtain⟨x,y,r,e⟩:=hS;exact GE (row:=AE (AB s.files a p).1) rfl (by rw[e];rfl) rfl ⟨rfl,rfl⟩) ⟨_,_,_,rfl⟩ ?_
 refine c_ 6 rfl (AK (QR s (AB s.files a p).1 hs) ?_);rintro r rfl;refine⟨.inr ⟨_,_,_,rfl⟩,?_⟩;refine CQ (i:=7) rfl rfl (by kernel_rfl) (by first|rfl|exact Ap rfl rfl (C0 ‹_›)|exact Ap rfl rfl (C1 ‹_›)|exact Ap rfl rfl (by simp[*])) (fun h0 hS=>Hs rfl ⟨rfl,rfl⟩) ⟨_,_,_,rfl⟩ ?_;refine CQ (i:=8) rfl rfl (by kernel_rfl) (by first|rfl|exact Ap rfl rfl (C0 ‹_›)|exact Ap rfl rfl (C1 ‹_›)|exact Ap rfl rfl (by simp[*])) (fun h0 hS=>FD rfl ⟨rfl,rfl⟩) ⟨_,_,_,rfl⟩ ?_;refine Aj 9 rfl (Af rfl rfl rfl rfl rfl rfl (by repeat constructor) (by repeat constructor) ?_);refine⟨.inr ⟨_,_,_,rfl⟩,?_⟩;refine z_ (h:=t_ (w_ (a_ (h:=e_ (A4 (?_))))));refine Am none (h5:=(A9 _)) (h6:=⟨_,rfl,rfl, .inr ⟨⟨ps,Cv s s.mounts.length (AB s.files a p).1,a,p,mi,lk⟩,by unfold EY;rw[if_neg (by simp[hc1]),if_neg (by omega),if_neg hc3,if_neg hc4,if_neg (by simp[hc5]),if_neg (by simp[hc6]),if_neg hlk],rfl,rfl⟩⟩)
end
theorem iQ{s:Spc}(hv:SpcV s):AT s.files (DY s)=true:=(Li ((NV hv _).1 (NW hv (Rs hv (Re hv (Int.le_refl 0) (by have:=hv.pos;omega))))).1.1).1
theorem iR{s:Spc}(fl:Bool){p:AD}{ps:List AD}{w w':Wk}(hn:w.name.size≤12)(h:EY s fl p ps w= .inr w'):w'.name.size≤12:=by
 unfold EY at h;split at h
 ·cases h
 split at h
 ·cases h
 rename_i h2;split at h
 ·injection h with h;subst h;exact BJ _
 split at h
 ·injection h with h;subst h;exact BJ _
 split at h
 ·cases h
 split at h
 ·split at h
  ·cases h
  injection h with h;subst h;exact Nat.le_of_not_lt h2
 split at h
 ·split at h
  ·cases h
  injection h with h;subst h;show ByteArray.size (if _ then _ else _)≤12;split
  ·exact BJ _
  exact hn
 injection h with h;subst h;exact Nat.le_of_not_lt h2
theorem Rx{s:Spc}(hv:FlsV s.files)(fl:Bool){p:AD}{ps:List AD}{w w':Wk}(hl:w.links≤8)(h:EY s fl p ps w= .inr w'):w'.links≤8∧(8 - w'.links) * 200+w'.ps.length<(8 - w.links) * 200+(ps.length+1):=by
 unfold EY at h;split at h
 ·cases h
 split at h
 ·cases h
 split at h
 ·injection h with h;subst h;exact⟨hl,by simp only;omega⟩
 split at h
 ·injection h with h;subst h;exact⟨hl,by simp only;omega⟩
 split at h
 ·cases h
 split at h
 ·split at h
  ·cases h
  injection h with h;subst h;exact⟨hl,by simp only;omega⟩
 split at h
 ·split at h
  ·cases h
  rename_i h9;injection h with h;subst h;have ht:=N9 hv (AB s.files w.at_ p).1;have hs:=Lj (Ah s.files (AB s.files w.at_ p).1).target;refine⟨by simp only;omega,?_⟩;simp only[List.length_append]
  have:(8 - w.links) * 200=(8 - (w.links+1)) * 200+200:=by
   rw[show 8 - w.links=(8 - (w.links+1))+1 by omega,Nat.add_mul]
  omega
 injection h with h;subst h;exact⟨hl,by simp only;omega⟩
theorem WQ{s:Spc}{start:AA}{p:AD}{fl:Bool}(h1:¬p=⟨#[]⟩)(h2:128<p.size):Bc s start p fl=(Dh,36):=by unfold Bc;rw[if_neg h1,if_pos h2]
section
variable {s:Spc}{start a:AA}{p:AD}{fl:Bool}(h1:¬p=⟨#[]⟩)(h2:¬128<p.size)(ha:(if Cx p=true then DY s else start)=a)
include h1 h2 ha
theorem WR(hd:AT s.files a=false):Bc s start p fl=(Dh,2):=by
 unfold Bc;rw[if_neg h1,if_neg h2,ha,if_pos hd]
variable (hd:AT s.files a=true)
include hd
theorem Ls{e:Int}{τ:Lk}(h:Dy s (fl||BN p) (Fw (Cq p) a)=(e,τ))(he:e≠0):Bc s start p fl=(Dh,e):=by
 unfold Bc;rw[if_neg h1,if_neg h2,ha,if_neg (by simp[hd]),h,if_pos he]
theorem WS{τ:Lk}(h:Dy s (fl||BN p) (Fw (Cq p) a)=(0,τ))(hs:BN p=true∧τ.ex=true∧AT s.files τ.file=false):Bc s start p fl=(Dh,20):=by
 unfold Bc;rw[if_neg h1,if_neg h2,ha,if_neg (by simp[hd]),h,if_neg (by simp),if_pos hs]
theorem PF{τ:Lk}(h:Dy s (fl||BN p) (Fw (Cq p) a)=(0,τ))(hs:¬(BN p=true∧τ.ex=true∧AT s.files τ.file=false)):Bc s start p fl=(GT s (BN p) τ,0):=by
 unfold Bc;rw[if_neg h1,if_neg h2,ha,if_neg (by simp[hd]),h,if_neg (by simp),if_neg hs]
end
theorem iS(ps:List AD)(a d:AA)(hd:ps=[]→True):Sim ⟨ps,a,d,⟨#[]⟩,false,0⟩ (Fw ps a):=by
 have _:=hd;exact⟨rfl,rfl,rfl,fun _=>rfl,fun h=>(by cases h),fun _ _=>⟨fun _=>⟨rfl,rfl⟩,fun h=>absurd rfl h⟩⟩
def PG(s:Spc)(F:Bool)(σ0:Lk)(w:Wk):Prop:=w.links≤8∧w.name.size≤12∧∃σ,Sim w σ∧Dy s F σ=Dy s F σ0
theorem WT{s:Spc}(hv:SpcV s){F:Bool}{σ0:Lk}{w:Wk}{p:AD}{ps:List AD}(hps:w.ps=p::ps)(h:PG s F σ0 w):(∀e,EY s F p ps w= .inl e→Dy s F σ0=(e,NL))∧∀w',EY s F p ps w= .inr w'→PG s F σ0 w':=by
 obtain⟨h8,hn,σ,hS,hT⟩:=h
 have hm:w.missing=false:=by
  cases hm:w.missing with
  |false=>rfl
  |true=>have:=(hS.gone hm).2.1;rw[hps]at this;cases this
 have h8σ:σ.links≤8:=by rw[←hS.links];exact h8
 have hc:=VX hv.files (fl:=F) h8σ (hS.ps.symm.trans hps);rcases gQ hv F (p:=p) (ps:=ps) hS hm with⟨e,q1,q2⟩|⟨w1,τ,q1,q2,q3⟩
 ·refine⟨fun e' he=>?_,fun w' hw=>by rw[q1]at hw;cases hw⟩;rw[q1]at he;injection he with he;subst he;rw[←hT,hc,q2]
 refine⟨fun e' he=>by(rw[q1]at he;cases he),fun w' hw=>?_⟩;have k1:=Rx hv.files F h8 hw;have k2:=iR F hn hw;rw[q1]at hw;injection hw with hw;subst hw;refine⟨k1.1,k2,τ,q3,?_⟩;rw[←hT,hc,q2]
theorem iT{s:Spc}(hv:SpcV s){F:Bool}{σ0:Lk}{w:Wk}(hps:w.ps=[])(h:PG s F σ0 w):∃σ,Dy s F σ0=(0,σ)∧σ.ex= !w.missing∧(w.missing=false→σ.file=w.at_)∧∀sl,GV s sl w=GT s sl σ:=by
 obtain⟨h8,hn,σ,hS,hT⟩:=h;exact⟨σ,by rw[←hT];exact Rh (hS.ps.symm.trans hps),hS.ex,fun hm=>(hS.here hm).symm,fun sl=>gR hv hS hps⟩
section
theorem iU(s:Spc)(start:AA)(p:AD)(fl:Bool)(hs:SpcN s)(hv:SpcV s)(hp:p.size≤1000000):AFn prog 52 [.agg (Ao s), .agg (AE start), .v (.string p), .v (.bool fl)] (fun r=>r= .tup [.agg (Aq (Bc s start p fl).1), .v (.int .i64 (Bc s start p fl).2)]):=by
 have hw:=RV hv;have hri:=iQ hv;refine enter Tryz.func52 rfl rfl rfl rfl rfl 0 rfl ?_;refine w_ (b_ (h:=b_ (h:=AZ (h:=a_ (h:=e_ (q_ (Av (w_ (m_ (h:=AR (h:=a_ (h:=e_ (?_)))))))))))));refine A8 rfl (fun hb1=>?_) (fun hb1=>?_)
 ·have hc1:=bp hb1;refine w_ (AX (h:=s_ (h:=a_ (h:=e_ (A4 (AY (A7 (?_))))))));refine AJ ?_;rw[show Bc s start p fl=(Dh,2) from if_pos hc1];rfl
 have hc1:=bp hb1;refine w_ (m_ (h:=n_ (h:=Ck (h:=a_ (h:=e_ (?_))))));refine A8 rfl (fun hb2=>?_) (fun hb2=>?_)
 ·have hc2:=bp hb2;refine w_ (AX (h:=s_ (h:=a_ (h:=e_ (A4 (AY (A7 (?_))))))));refine AJ ?_;rw[WQ hc1 (by omega)];rfl
 have hc2:=bp hb2;refine BM (B8 (t_ (w_ (m_ (h:=?_)))));refine A6 rfl (AK (WM p (by omega)) ?_);rintro r rfl;refine m_ (h:=x_ (h:=x_ (h:=x_ (h:=a_ (h:=a_ (h:=a_ (h:=e_ (?_))))))));refine BE (fun t=>t=⟨look [(2, .v (.string p)),(4, .bp 0 0),(5, .bp 1 0),(8, .bp 2 0),(11, .v (.bool (Cx p))),(12, .v (.bool (BN p))),(13, .bp 3 0)],⟨[Ao s,AE start,Aq Dh,EZ s (fl||BN p) ⟨Cq p,start,(0,0),⟨#[]⟩,false,0⟩],[]⟩⟩) ?_ ?_
 ·skip
  refine AQ (l_ (h:=m_ (h:=l_ (h:=m_ (h:=m_ (h:=?_))))));refine B5 false rfl rfl (fun hb3=>?_) (fun hb3=>?_)
  ·have hc3:=bp hb3;refine A3 (h:=Ag (h:=AX (h:=AZ (h:=s_ (h:=AP (?_))))));refine AF ?_
   (rw[hb3];exact⟨_,rfl,(wk 4 0)⟩)
  have hc3:=bp hb3;refine m_ (h:=Ar (h:=AX (h:=AZ (h:=s_ (h:=AP (?_))))));refine AF ?_
  (rw[hb3];exact⟨_,rfl,(wk 4 0)⟩)
 rintro t rfl;refine BE (fun t=>∃a,(if Cx p=true then DY s else start)=a∧AT s.files a=true∧t=⟨look [(4, .bp 0 0),(8, .bp 2 0),(12, .v (.bool (BN p))),(13, .bp 3 0)],⟨[Ao s,AE start,Aq Dh,EZ s (fl||BN p) ⟨Cq p,a,(0,0),⟨#[]⟩,false,0⟩],[]⟩⟩) ?_ ?_
 ·skip
  refine w_ (m_ (h:=e_ (?_)));refine A8 rfl (fun hb4=>?_) (fun hb4=>?_)
  ·have hc4:=bp hb4;refine AQ (l_ (h:=?_));refine A6 rfl (AK (WP s hs.b) ?_);rintro r rfl;refine f_ (h:=s_ (h:=AP (?_)));refine AF ?_;exact⟨_,⟨DY s,if_pos hc4,hri,rfl⟩,(wk 4 0)⟩
  have hc4:=bp hb4;refine w_ (?_);refine A6 rfl (Cn 1 rfl (.cons _ _ _ _ _ rfl (A9 _) .nil) (Rw s (fl||BN p) ⟨Cq p,start,(0,0),⟨#[]⟩,false,0⟩ hs.b) ?_);rintro r rfl;refine⟨rfl,?_⟩;refine BG (h:=e_ (?_));refine A8 rfl (fun hb5=>?_) (fun hb5=>?_)
  ·have hc5:=bp hb5;refine w_ (AX (h:=s_ (h:=a_ (h:=e_ (A4 (A7 (?_)))))));refine AJ ?_;rw[WR hc1 (by omega) (if_neg (by simp[hc4])) (by simpa using hc5)];rfl
  have hc5:=bp hb5;refine BM (?_);refine AF ?_
  first|exact⟨_,⟨DY s,if_pos hc4,hri,rfl⟩,(wk 4 0)⟩|exact⟨_,⟨start,if_neg (by simp[hc4]),by simpa using hc5,rfl⟩,(wk 4 0)⟩
 rintro t ⟨a,ha,had,rfl⟩;refine q_ (Av (?_));refine Bq (fun m t=>∃w,PG s (fl||BN p) (Fw (Cq p) a) w∧m=(8 - w.links) * 200+w.ps.length∧m≤1600+(p.size+1)∧t=⟨look [(4, .bp 0 0),(8, .bp 2 0),(12, .v (.bool (BN p))),(13, .bp 3 0)],⟨[Ao s,AE start,Aq Dh,EZ s (fl||BN p) w],[]⟩⟩) ((8 - 0) * 200+(Cq p).length) ((wk 4 0)) (⟨_,⟨BJ _,BJ _,_,iS (Cq p) a (0,0) (fun _=>trivial),rfl⟩,rfl,by have:=Lj p;omega,rfl⟩) ?_;rintro m t ⟨w,hR,rfl,hm,rfl⟩;have hml:(w.ps.map DF).length=w.ps.length:=by simp
 refine q_ (w_ (f_ (h:=l_ (h:=n_ (h:=Ck (h:=e_ (?_)))))));refine A8 rfl (fun hb6=>?_) (fun hb6=>?_)
 ·have hc6:=bp hb6
  obtain⟨q,qs,hqs⟩:∃q qs,w.ps=q::qs:=by
   cases hq:w.ps with
   |nil=>rw[hq]at hml hc6;simp at hc6
   |cons q qs=>exact⟨q,qs,rfl⟩
  have hql:w.ps.length=qs.length+1:=by rw[hqs];rfl
  refine AN (Av (w_ (?_)));refine A6 rfl (Q4 3 rfl (by repeat (first|exact ArgsB.nil|refine ArgsB.cons _ _ _ _ _ rfl rfl ?_)) rfl rfl (iP s (fl||BN p) w q qs hqs hs.b hv hR.1 (by omega)) ?_);rintro r row2 (⟨e,he,he0,rfl,rfl⟩|⟨w2,hw2,rfl,rfl⟩)
  ·refine⟨PD _ _ _,rfl,_,(by repeat constructor),?_⟩;refine a_ (h:=e_ (w_ (m_ (h:=BV (h:=e_ (?_))))));refine A8 rfl (fun hb7=>?_) (fun hb7=>?_)
   ·have hc7:=bp hb7;refine w_ (AX (h:=m_ (h:=s_ (h:=a_ (h:=e_ (A4 (AY (A7 (AY (A7 (?_)))))))))));refine AJ ?_;rw[Ls hc1 (by omega) ha had ((WT hv hqs hR).1 e he) he0];rfl
   have hc7:=bp hb7;exact absurd hc7 he0
  refine⟨PD _ _ _,rfl,_,(by repeat constructor),?_⟩;refine a_ (h:=e_ (w_ (m_ (h:=BV (h:=e_ (?_))))));refine A8 rfl (fun hb8=>?_) (fun hb8=>?_)
  ·have hc8:=bp hb8;exact absurd rfl hc8
  have hc8:=bp hb8;refine BM (B8 (?_));refine AF ?_;exact⟨(8 - w2.links) * 200+w2.ps.length,_,(by have:=(Rx hv.files _ hR.1 hw2).2;omega),⟨w2,(WT hv hqs hR).2 w2 hw2,rfl,by have:=(Rx hv.files _ hR.1 hw2).2;omega,rfl⟩,(wk 4 0)⟩
 have hc6:=bp hb6;have hps:w.ps=[]:=Dd (by omega);obtain⟨σ,hT,hσx,hσf,hσe⟩:=iT hv hps hR;refine BX (Aw (Aw (BY (t_ (q_ (?_))))));refine Jp (⟨look [(8, .bp 2 0),(12, .v (.bool (BN p))),(13, .bp 3 0),(63, .v (.bool (BN p&&(!w.missing&& !AT s.files w.at_))))],⟨[Ao s,AE start,Aq Dh,EZ s (fl||BN p) w],[]⟩⟩) ?_ ?_
 ·skip
  refine AQ (m_ (h:=m_ (h:=?_)));refine B5 true rfl rfl (fun hb9=>?_) (fun hb9=>?_)
  ·have hc9:=bp hb9;refine f_ (h:=l_ (h:=BG (h:=Ag (h:=m_ (h:=?_)))));refine B5 true rfl rfl (fun hb10=>?_) (fun hb10=>?_)
   ·have hc10:=bp hb10;refine BB (Cn 1 rfl (.cons _ _ _ _ _ rfl (A9 _) .nil) (Rw s (fl||BN p) w hs.b) ?_);rintro r rfl;refine⟨rfl,?_⟩;refine BG (h:=Ag (h:=AP (?_)));refine AF ?_
    first|(exfalso;first|contradiction|omega)|exact Az 4 0 rfl rfl rfl rfl (by repeat (first|exact Sub.nil|refine B0 rfl rfl ?_|refine B2 ?_|refine B3 rfl ?_|refine B4 rfl ?_|(apply Sub.of;(focus exact rfl);(focus exact LeA.of_eq (vb (by first|(rw[hb9];rfl)|(rw[hb9,hb10];rfl))));(focus exact rfl))))
   have hc10:=bp hb10;refine A3 (h:=A3 (h:=Ar (h:=AP (?_))));refine AF ?_
   first|(exfalso;first|contradiction|omega)|exact Az 4 0 rfl rfl rfl rfl (by repeat (first|exact Sub.nil|refine B0 rfl rfl ?_|refine B2 ?_|refine B3 rfl ?_|refine B4 rfl ?_|(apply Sub.of;(focus exact rfl);(focus exact LeA.of_eq (vb (by first|(rw[hb9];rfl)|(rw[hb9,hb10];rfl))));(focus exact rfl))))
  have hc9:=bp hb9;refine A3 (h:=A3 (h:=A3 (h:=Ar (h:=m_ (h:=A3 (h:=A3 (h:=Ar (h:=AP (?_)))))))));refine AF ?_
  first|(exfalso;first|contradiction|omega)|exact Az 4 0 rfl rfl rfl rfl (by repeat (first|exact Sub.nil|refine B0 rfl rfl ?_|refine B2 ?_|refine B3 rfl ?_|refine B4 rfl ?_|(apply Sub.of;(focus exact rfl);(focus exact LeA.of_eq (vb (by first|(rw[hb9];rfl)|(rw[hb9,hb10];rfl))));(focus exact rfl))))
 skip
 refine A8 rfl (fun hb11=>?_) (fun hb11=>?_)
 ·have hc11:=bp hb11;refine w_ (AX (h:=s_ (h:=a_ (h:=e_ (A4 (A7 (?_)))))));refine AJ ?_;rw[WS hc1 (by omega) ha had hT (by simp only[Bool.and_eq_true,Bool.not_eq_true']at hc11;exact⟨hc11.1,by rw[hσx,hc11.2.1];rfl,by rw[hσf hc11.2.1];exact hc11.2.2⟩)];rfl
 have hc11:=bp hb11;refine AN (w_ (m_ (h:=?_)));refine A6 rfl (Cn 1 rfl (.cons _ _ _ _ _ rfl (A9 _) (.cons _ _ _ _ _ rfl (A9 _) .nil)) (iN s (fl||BN p) (BN p) w hs hw (by have:=hR.2.1;omega)) ?_);rintro r rfl;refine⟨rfl,?_⟩;refine s_ (h:=a_ (h:=e_ (A4 (?_))));refine AJ ?_
 rw[PF hc1 (by omega) ha had hT (fun h=>by
  obtain⟨h1,h2,h3⟩:=h;rw[hσx]at h2;have hm2:w.missing=false:=by simpa using h2
  rw[hσf hm2]at h3;rw[h1,h2,h3]at hc11
  cases hc11),←hσe]
 rfl
end
section
theorem Ry{s:Spc}(hs:SpcB s)(hv:SpcV s)(a:AA):AFn prog 100 [.agg (Ao s), .agg (AE a)] (fun r=>r= .agg (AE (Cv s s.mounts.length a))):=
 (Yz s a hs).mono fun r hr=>by rw[hr,eB hv]
end
def NY(σ:Lk):List AV:=Aq ⟨σ.dir,σ.name,σ.file,σ.ex,false,⟨#[]⟩⟩
theorem Hk{s:Spc}(hv:FlsV s.files){F:Bool}{q:AD}{qs:List AD}{da:AA}{na:AD}{a:AA}{ea:Bool}{lk:Nat}(h8:lk≤8):(∀e,By s F q qs a lk= .inl e→Dy s F ⟨q::qs,da,na,a,ea,lk⟩=(e,NL))∧∀τ,By s F q qs a lk= .inr τ→τ.links≤8∧Dy s F ⟨q::qs,da,na,a,ea,lk⟩=Dy s F τ∧Eh τ<(8 - lk) * 200+(qs.length+1):=by
 have hc:=VX hv (fl:=F) (σ:=⟨q::qs,da,na,a,ea,lk⟩) (p:=q) (ps:=qs) h8 rfl;refine⟨fun e he=>?_,fun τ hτ=>?_⟩
 ·rw[hc];simp only[he]
 obtain⟨h1,h2⟩:=Rg hv h8 hτ;refine⟨h1,?_,h2⟩;rw[hc];simp only[hτ]
section
theorem WU(s:Spc)(hs:SpcB s)(hv:SpcV s):AFn prog 99 [.agg (Ao s)] (fun r=>r= .agg (AE (DY s))):=by
 refine enter Tryz.func99 rfl rfl rfl rfl rfl 0 rfl ?_;refine w_ (b_ (h:=AZ (h:=e_ (w_ (l_ (h:=AX (h:=?_)))))));refine A6 rfl (AK (Ry hs hv (0,1)) ?_);rintro r rfl;refine s_ (h:=e_ (A4 (?_)));refine AJ ?_;rfl
theorem WV(s:Spc)(start:AA)(p:AD)(fl:Bool)(hs:SpcN s)(hv:SpcV s)(hp:p.size≤100000):AFn prog 56 [.agg (Ao s), .agg (AE start), .v (.string p), .v (.bool fl)] (fun r=>r= .tup [.agg (Aq (Bc s start p fl).1), .v (.int .i64 (Bc s start p fl).2)]):=by
 have hw:=RV hv;have hsp:=Lj p;refine enter Tryz.func56 rfl rfl rfl rfl rfl 0 rfl ?_;refine w_ (b_ (h:=b_ (h:=AZ (h:=a_ (h:=e_ (w_ (m_ (h:=?_))))))));refine A6 rfl (AK (RZ p hp) ?_);rintro r ⟨ps,hps,rfl⟩;obtain rfl:=Rf hps;clear hps;refine m_ (h:=x_ (h:=x_ (h:=x_ (h:=a_ (h:=a_ (h:=a_ (h:=e_ (q_ (w_ (m_ (h:=AR (h:=e_ (?_)))))))))))));refine A8 rfl (fun hb1=>?_) (fun hb1=>?_)
 ·have hc1:=bp hb1;refine w_ (AX (h:=s_ (h:=a_ (h:=e_ (A4 (A7 (?_)))))));refine AJ ?_;rw[show Bc s start p fl=(Dh,2) from if_pos hc1];rfl
 have hc1:=bp hb1;refine AN (q_ (w_ (m_ (h:=n_ (h:=Ck (h:=e_ (?_)))))));refine A8 rfl (fun hb2=>?_) (fun hb2=>?_)
 ·have hc2:=bp hb2;refine w_ (AX (h:=s_ (h:=a_ (h:=e_ (A4 (A7 (?_)))))));refine AJ ?_;rw[WQ hc1 (by omega)];rfl
 have hc2:=bp hb2;refine AN (w_ (l_ (h:=AZ (h:=s_ (h:=e_ (?_))))));refine BE (fun t=>∃a,(if Cx p=true then DY s else start)=a∧t=⟨look [(3, .v (.bool fl)),(4, .bp 0 0),(8, .bp 2 0),(10, .sl 1 ((Cq p).map DF) none),(12, .v (.bool (BN p))),(13, .bp 3 0)],⟨[Ao s,AE start,Aq Dh,AE a],[]⟩⟩) ?_ ?_
 ·skip
  refine w_ (m_ (h:=e_ (?_)));refine A8 rfl (fun hb3=>?_) (fun hb3=>?_)
  ·have hc3:=bp hb3;refine AQ (l_ (h:=?_));refine A6 rfl (AK (WU s hs.b hv) ?_);rintro r rfl;refine s_ (h:=AP (?_));refine AF ?_;exact⟨_,⟨DY s,if_pos hc3,rfl⟩,(wk 4 0)⟩
  have hc3:=bp hb3;refine BM (?_);refine AF ?_
  first|exact⟨_,⟨DY s,if_pos hc3,rfl⟩,(wk 4 0)⟩|exact⟨_,⟨start,if_neg (by simp[hc3]),rfl⟩,(wk 4 0)⟩
 rintro t ⟨a0,ha,rfl⟩;refine q_ (w_ (f_ (h:=l_ (h:=l_ (h:=?_)))));refine A6 rfl (AK (Gl s.files a0 hs.b.files) ?_);rintro r rfl;refine BG (h:=e_ (?_));refine A8 rfl (fun hb4=>?_) (fun hb4=>?_)
 ·have hc4:=bp hb4;refine w_ (AX (h:=s_ (h:=a_ (h:=e_ (A4 (A7 (?_)))))));refine AJ ?_;rw[WR hc1 (by omega) ha (by simpa using hc4)];rfl
 have hc4:=bp hb4;have had:AT s.files a0=true:=by simpa using hc4
 refine AN (w_ (l_ (h:=l_ (h:=AX (h:=AZ (h:=s_ (h:=e_ (w_ (a_ (h:=e_ (?_)))))))))));refine BE (fun t=>∃(τ:Lk) (d:AA),Dy s (fl||BN p) (Fw (Cq p) a0)=(0,τ)∧τ.name.size≤1000∧t=⟨look [(4, .bp 0 0),(8, .bp 2 0),(12, .v (.bool (BN p))),(14, .bp 4 0)],⟨[Ao s,AE start,Aq Dh,AE d,NY τ],[]⟩⟩) ?_ ?_
 ·skip
  refine Av (?_);refine Bq (fun m t=>∃(σ:Lk) (d:AA),σ.links≤8∧σ.name.size≤12∧Dy s (fl||BN p) σ=Dy s (fl||BN p) (Fw (Cq p) a0)∧m=Eh σ∧m≤1729∧t=⟨look [(3, .v (.bool fl)),(4, .bp 0 0),(8, .bp 2 0),(10, .sl 1 (σ.ps.map DF) none),(12, .v (.bool (BN p))),(13, .bp 3 0),(14, .bp 4 0),(15, .v (.int .i64 (σ.links:Int)))],⟨[Ao s,AE start,Aq Dh,AE d,NY σ],[]⟩⟩) (Eh (Fw (Cq p) a0)) ((wk 5 0)) (⟨_,a0,BJ _,BJ _,rfl,rfl,by show(8 - 0) * 200+(Cq p).length≤1729;omega,rfl⟩) ?_;rintro m t ⟨⟨ps0,da,na,a,ea,lk⟩,d,h8,hna,hT,rfl,hm,rfl⟩;have hm:(8 - lk) * 200+ps0.length≤1729:=hm;have h8:lk≤8:=h8;have hml:(ps0.map DF).length=ps0.length:=by simp
  refine q_ (w_ (m_ (h:=n_ (h:=Ck (h:=e_ (?_))))));refine A8 rfl (fun hb5=>?_) (fun hb5=>?_)
  ·have hc5:=bp hb5
   obtain⟨q,qs,hps⟩:∃q qs,ps0=q::qs:=by
    cases ps0 with
    |nil=>simp at hc5
    |cons q qs=>exact⟨q,qs,rfl⟩
   subst hps;have hml:(qs.map DF).length=qs.length:=by simp
   have hmq:(8 - lk) * 200+(qs.length+1)≤1729:=hm;have htg:=N9 hv.files (AB s.files a q).1;have htp:=Lj (Ah s.files (AB s.files a q).1).target;refine AN (Av (w_ (m_ (h:=?_))));refine A6 rfl (Ci (n:=0) rfl rfl rfl rfl ?_);refine l_ (h:=a_ (h:=e_ (?_)));refine Jp (⟨look [(3, .v (.bool fl)),(4, .bp 0 0),(8, .bp 2 0),(10, .sl 1 (qs.map DF) none),(12, .v (.bool (BN p))),(13, .bp 3 0),(14, .bp 4 0),(15, .v (.int .i64 (lk:Int))),(16, .v (.string q))],⟨[Ao s,AE start,Aq Dh,AE d,NY ⟨q::qs,da,na,a,ea,lk⟩],[]⟩⟩) ?_ ?_
   ·skip
    refine AQ (m_ (h:=?_));refine A6 rfl (Px (l:=1) rfl rfl rfl (by simp) ?_);refine a_ (h:=AP (?_));refine AF ?_
    first|(exfalso;first|contradiction|omega)|exact Az 5 0 rfl rfl rfl rfl (by repeat (first|exact Sub.nil|refine B0 rfl rfl ?_|refine B2 ?_|refine B3 rfl ?_|refine B4 rfl ?_|(apply Sub.of;(focus exact rfl);(focus exact LeA.of_eq (vb (by rfl)));(focus exact rfl))))
   skip
   refine w_ (f_ (h:=l_ (h:=s_ (h:=e_ (q_ (w_ (f_ (h:=l_ (h:=l_ (h:=?_))))))))));refine A6 rfl (AK (Gl s.files a hs.b.files) ?_);rintro r rfl;refine BG (h:=e_ (?_));refine A8 rfl (fun hb6=>?_) (fun hb6=>?_)
   ·have hc6:=bp hb6;have hst:By s (fl||BN p) q qs a lk= .inl 20:=by unfold By;rw[if_pos hc6]
    refine w_ (AX (h:=s_ (h:=a_ (h:=e_ (A4 (A7 (AY (A7 (AY (A7 (?_)))))))))));refine AJ ?_;rw[Ls hc1 (by omega) ha had (hT.symm.trans ((Hk (F:=fl||BN p) (da:=da) (na:=na) (ea:=ea) hv.files h8).1 _ hst)) (by decide)];rfl
   have hc6:=bp hb6;refine AN (q_ (w_ (m_ (h:=n_ (h:=Ck (h:=e_ (?_)))))));refine A8 rfl (fun hb7=>?_) (fun hb7=>?_)
   ·have hc7:=bp hb7;have hst:By s (fl||BN p) q qs a lk= .inl 36:=by unfold By;rw[if_neg (by simp[hc6]),if_pos (by omega)]
    refine w_ (AX (h:=s_ (h:=a_ (h:=e_ (A4 (A7 (AY (A7 (AY (A7 (?_)))))))))));refine AJ ?_;rw[Ls hc1 (by omega) ha had (hT.symm.trans ((Hk (F:=fl||BN p) (da:=da) (na:=na) (ea:=ea) hv.files h8).1 _ hst)) (by decide)];rfl
   have hc7:=bp hb7;have hq12:q.size≤12:=by omega
   refine AN (q_ (w_ (m_ (h:=AR (h:=m_ (h:=?_))))));refine B5 false rfl rfl (fun hb8=>?_) (fun hb8=>?_)
   ·have hc8:=bp hb8;refine A3 (h:=A3 (h:=Ag (h:=e_ (C2 (h:=q_ (w_ (m_ (h:=AR (h:=e_ (?_))))))))));refine A8 rfl (fun hb9=>?_) (fun hb9=>?_)
    ·have hc9:=bp hb9;rw[hc8]at hc9;exact absurd hc9 (by decide)
    have hc9:=bp hb9;have hst:By s (fl||BN p) q qs a lk= .inr ⟨qs,a,⟨#[]⟩,a,true,lk⟩:=by unfold By;rw[if_neg (by simp[hc6]),if_neg (by omega),if_pos hc8]
    refine AN (w_ (l_ (h:=l_ (h:=AX (h:=s_ (h:=e_ (BX (Aw (BY (?_))))))))));refine AF ?_;obtain⟨g1,g2,g3⟩:=(Hk (F:=fl||BN p) (da:=da) (na:=na) (ea:=ea) hv.files h8).2 _ hst;exact⟨_,_,g3,⟨_,_,g1,(by first|exact BJ _|exact hq12),g2.symm.trans hT,rfl,Nat.le_trans (Nat.le_of_lt g3) hmq,rfl⟩,(by(try simp only[List.map_append]);exact Az 5 0 rfl rfl rfl rfl ((by repeat (first|exact Sub.nil|refine B0 rfl rfl ?_|refine B2 ?_|refine B3 rfl ?_|refine B4 rfl ?_))))⟩
   have hc8:=bp hb8;refine m_ (h:=AR (h:=Ar (h:=e_ (?_))));refine A8 rfl (fun hb10=>?_) (fun hb10=>?_)
   ·have hc10:=bp hb10;refine q_ (w_ (m_ (h:=AR (h:=e_ (?_)))));refine A8 rfl (fun hb11=>?_) (fun hb11=>?_)
    ·have hc11:=bp hb11;have hst:By s (fl||BN p) q qs a lk= .inr ⟨qs,Cv s s.mounts.length (Dq s (s.mounts.length+1) a),⟨#[]⟩,Cv s s.mounts.length (Dq s (s.mounts.length+1) a),true,lk⟩:=by unfold By;rw[if_neg (by simp[hc6]),if_neg (by omega),if_neg hc8,if_pos hc11]
     refine BO ([(0,Ao s),(3,AE a)]) 5 (h:=AM 0 (h:=AM 1 (h:=AM 2 (h:=?_))));refine c_ 3 rfl (AK (eU hs.b hv (s.mounts.length+1) a (by have:=dY (s:=s) a.1;omega)) ?_);rintro r rfl;refine o_ (h:=?_);refine c_ 4 rfl (AK (Ry hs.b hv (Dq s (s.mounts.length+1) a)) ?_);rintro r rfl;refine o_ (h:=?_);refine Aj 5 rfl (Af rfl rfl rfl rfl rfl rfl (by repeat constructor) (by repeat constructor) ?_);refine o_ (h:=z_ (h:=t_ (w_ (l_ (h:=l_ (h:=AX (h:=s_ (h:=e_ (BX (Aw (BY (?_))))))))))));refine AF ?_;obtain⟨g1,g2,g3⟩:=(Hk (F:=fl||BN p) (da:=da) (na:=na) (ea:=ea) hv.files h8).2 _ hst;exact⟨_,_,g3,⟨_,_,g1,(by first|exact BJ _|exact hq12),g2.symm.trans hT,rfl,Nat.le_trans (Nat.le_of_lt g3) hmq,rfl⟩,(by(try simp only[List.map_append]);exact Az 5 0 rfl rfl rfl rfl ((by repeat (first|exact Sub.nil|refine B0 rfl rfl ?_|refine B2 ?_|refine B3 rfl ?_|refine B4 rfl ?_))))⟩
    have hc11:=bp hb11;exact absurd hc10 hc11
   have hc10:=bp hb10;refine AN (w_ (f_ (h:=l_ (h:=l_ (h:=m_ (h:=?_))))));refine A6 rfl (AK (Gm s.files a q hs.b.files) ?_);rintro r rfl;refine m_ (h:=x_ (h:=x_ (h:=AZ (h:=s_ (h:=a_ (h:=e_ (q_ (w_ (m_ (h:=BV (h:=e_ (?_))))))))))));refine A8 rfl (fun hb12=>?_) (fun hb12=>?_)
   ·have hc12:=bp hb12;refine q_ (w_ (m_ (h:=n_ (h:=Ck (h:=m_ (h:=?_))))));refine B5 false rfl rfl (fun hb13=>?_) (fun hb13=>?_)
    ·have hc13:=bp hb13;have hne:qs≠[]:=fun e=>by rw[e]at hc13;simp at hc13
     have hst:By s (fl||BN p) q qs a lk= .inl 2:=by unfold By;rw[if_neg (by simp[hc6]),if_neg (by omega),if_neg hc8,if_neg hc10,if_pos hc12,if_pos (.inl hne)]
     refine A3 (h:=A3 (h:=A3 (h:=Ag (h:=e_ (C2 (h:=w_ (AX (h:=s_ (h:=a_ (h:=e_ (A4 (A7 (A7 (AY (A7 (AY (A7 (?_))))))))))))))))));refine AJ ?_;rw[Ls hc1 (by omega) ha had (hT.symm.trans ((Hk (F:=fl||BN p) (da:=da) (na:=na) (ea:=ea) hv.files h8).1 _ hst)) (by decide)];rfl
    have hc13:=bp hb13;have hne:¬qs≠[]:=fun e=>e (Dd (by omega));refine m_ (h:=?_);refine BB (AK (OV q (by omega)) ?_);rintro r rfl;refine BG (h:=Ar (h:=e_ (?_)));refine A8 rfl (fun hb14=>?_) (fun hb14=>?_)
    ·have hc14:=bp hb14;have hst:By s (fl||BN p) q qs a lk= .inl 2:=by unfold By;rw[if_neg (by simp[hc6]),if_neg (by omega),if_neg hc8,if_neg hc10,if_pos hc12,if_pos (.inr hc14)]
     refine w_ (AX (h:=s_ (h:=a_ (h:=e_ (A4 (A7 (A7 (AY (A7 (AY (A7 (?_))))))))))));refine AJ ?_;rw[Ls hc1 (by omega) ha had (hT.symm.trans ((Hk (F:=fl||BN p) (da:=da) (na:=na) (ea:=ea) hv.files h8).1 _ hst)) (by decide)];rfl
    have hc14:=bp hb14;have hst:By s (fl||BN p) q qs a lk= .inr ⟨[],a,q,(0,0),false,lk⟩:=by unfold By;rw[if_neg (by simp[hc6]),if_neg (by omega),if_neg hc8,if_neg hc10,if_pos hc12,if_neg (fun e=>e.elim hne (by simp[hc14]))]
    have hfin:=hT.symm.trans (((Hk (F:=fl||BN p) (da:=da) (na:=na) (ea:=ea) hv.files h8).2 _ hst).2.1.trans (Rh rfl));refine AN (w_ (l_ (h:=m_ (h:=AX (h:=s_ (h:=e_ (BX (Aw (MC rfl (Aw (BY (?_))))))))))));refine AF ?_;exact⟨_,⟨_,_,hfin,(by first|exact Nat.le_trans hna (by decide)|exact Nat.le_trans hq12 (by decide)),rfl⟩,(wk 5 0)⟩
   have hc12:=bp hb12;refine AN (w_ (f_ (h:=l_ (h:=l_ (h:=?_)))));refine A6 rfl (AK (ED s.files (AB s.files a q).1 hs.b.files) ?_);rintro r rfl;refine m_ (h:=x_ (h:=x_ (h:=AZ (h:=s_ (h:=a_ (h:=e_ (q_ (?_))))))));refine Jp (⟨look [(3, .v (.bool fl)),(4, .bp 0 0),(8, .bp 2 0),(10, .sl 1 (qs.map DF) none),(12, .v (.bool (BN p))),(13, .bp 3 0),(14, .bp 4 0),(15, .v (.int .i64 (lk:Int))),(16, .v (.string q)),(17, .bp 5 0),(19, .bp 6 0),(130, .v (.bool (decide ((Ah s.files (AB s.files a q).1).kind=3)&&(decide (0<((qs.map DF).length:Int))||(fl||BN p)))))],⟨[Ao s,AE start,Aq Dh,AE a,NY ⟨q::qs,da,na,a,ea,lk⟩,AE (AB s.files a q).1,Ak (Ah s.files (AB s.files a q).1)],[]⟩⟩) ?_ ?_
   ·skip
    refine AQ (f_ (h:=l_ (h:=AR (h:=m_ (h:=?_)))));refine B5 true rfl rfl (fun hb15=>?_) (fun hb15=>?_)
    ·have hc15:=bp hb15;refine m_ (h:=n_ (h:=Ck (h:=m_ (h:=?_))));refine B5 false rfl rfl (fun hb16=>?_) (fun hb16=>?_)
     ·have hc16:=bp hb16;refine A3 (h:=Ag (h:=m_ (h:=A3 (h:=Ag (h:=Ag (h:=AP (?_)))))));refine AF ?_
      first|(exfalso;first|contradiction|omega)|exact Az 7 0 rfl rfl rfl rfl (by repeat (first|exact Sub.nil|refine B0 rfl rfl ?_|refine B2 ?_|refine B3 rfl ?_|refine B4 rfl ?_|(apply Sub.of;(focus exact rfl);(focus exact LeA.of_eq (vb (by first|(rw[hb15];rfl)|(rw[hb15,hb16];rfl)|(rw[hb15,hb16,hb17];rfl))));(focus exact rfl))))
     have hc16:=bp hb16;refine m_ (h:=Ar (h:=m_ (h:=?_)));refine B5 false rfl rfl (fun hb17=>?_) (fun hb17=>?_)
     ·have hc17:=bp hb17;refine A3 (h:=Ag (h:=Ag (h:=AP (?_))));refine AF ?_
      first|(exfalso;first|contradiction|omega)|exact Az 7 0 rfl rfl rfl rfl (by repeat (first|exact Sub.nil|refine B0 rfl rfl ?_|refine B2 ?_|refine B3 rfl ?_|refine B4 rfl ?_|(apply Sub.of;(focus exact rfl);(focus exact LeA.of_eq (vb (by first|(rw[hb15];rfl)|(rw[hb15,hb16];rfl)|(rw[hb15,hb16,hb17];rfl))));(focus exact rfl))))
     have hc17:=bp hb17;refine m_ (h:=Ar (h:=Ag (h:=AP (?_))));refine AF ?_
     first|(exfalso;first|contradiction|omega)|exact Az 7 0 rfl rfl rfl rfl (by repeat (first|exact Sub.nil|refine B0 rfl rfl ?_|refine B2 ?_|refine B3 rfl ?_|refine B4 rfl ?_|(apply Sub.of;(focus exact rfl);(focus exact LeA.of_eq (vb (by first|(rw[hb15];rfl)|(rw[hb15,hb16];rfl)|(rw[hb15,hb16,hb17];rfl))));(focus exact rfl))))
    have hc15:=bp hb15;refine A3 (h:=A3 (h:=A3 (h:=A3 (h:=Cz (h:=A3 (h:=A3 (h:=Cz (h:=A3 (h:=Ar (h:=AP (?_)))))))))));refine AF ?_
    first|(exfalso;first|contradiction|omega)|exact Az 7 0 rfl rfl rfl rfl (by repeat (first|exact Sub.nil|refine B0 rfl rfl ?_|refine B2 ?_|refine B3 rfl ?_|refine B4 rfl ?_|(apply Sub.of;(focus exact rfl);(focus exact LeA.of_eq (vb (by first|(rw[hb15];rfl)|(rw[hb15,hb16];rfl)|(rw[hb15,hb16,hb17];rfl))));(focus exact rfl))))
   skip
   refine A8 rfl (fun hb18=>?_) (fun hb18=>?_)
   ·have hc18:=bp hb18
    have hlk:(Ah s.files (AB s.files a q).1).kind=3∧(qs≠[]∨(fl||BN p)=true):=by
     rw[Bool.and_eq_true,decide_eq_true_eq,Bool.or_eq_true,decide_eq_true_eq]at hc18;exact⟨hc18.1,hc18.2.imp (fun h e=>by rw[e]at h;simp at h) id⟩
    refine q_ (w_ (m_ (h:=AR (h:=e_ (?_)))));refine A8 rfl (fun hb19=>?_) (fun hb19=>?_)
    ·have hc19:=bp hb19;have hst:By s (fl||BN p) q qs a lk= .inl 40:=by unfold By;rw[if_neg (by simp[hc6]),if_neg (by omega),if_neg hc8,if_neg hc10,if_neg (by simp[hc12]),if_pos hlk,if_pos (by omega)]
     refine w_ (AX (h:=s_ (h:=a_ (h:=e_ (A4 (A7 (A7 (AY (A7 (AY (A7 (?_))))))))))));refine AJ ?_;rw[Ls hc1 (by omega) ha had (hT.symm.trans ((Hk (F:=fl||BN p) (da:=da) (na:=na) (ea:=ea) hv.files h8).1 _ hst)) (by decide)];rfl
    have hc19:=bp hb19;refine AN (w_ (m_ (h:=?_)));refine A6 rfl (KL rfl rfl (by omega) ?_);refine a_ (h:=e_ (w_ (f_ (h:=l_ (h:=?_)))));refine A6 rfl (AK (RZ (Ah s.files (AB s.files a q).1).target (by omega)) ?_);rintro r ⟨ps,hps,rfl⟩;obtain rfl:=Rf hps;clear hps;refine m_ (h:=x_ (h:=x_ (h:=x_ (h:=a_ (h:=a_ (h:=a_ (h:=e_ (q_ (w_ (m_ (h:=e_ (?_))))))))))));refine A8 rfl (fun hb20=>?_) (fun hb20=>?_)
    ·have hc20:=bp hb20;have hst:By s (fl||BN p) q qs a lk= .inr ⟨Cq (Ah s.files (AB s.files a q).1).target++qs,DY s,⟨#[]⟩,DY s,true,lk+1⟩:=by unfold By;rw[if_neg (by simp[hc6]),if_neg (by omega),if_neg hc8,if_neg hc10,if_neg (by simp[hc12]),if_pos hlk,if_neg (by omega),if_pos hc20]
     refine AQ (l_ (h:=?_));refine A6 rfl (AK (WU s hs.b hv) ?_);rintro r rfl;refine s_ (h:=e_ (w_ (m_ (h:=JJ (h:=m_ (h:=JJ (h:=a_ (h:=e_ (w_ (l_ (h:=l_ (h:=AX (h:=s_ (h:=e_ (BX (Aw (BY (?_))))))))))))))))));refine AF ?_;obtain⟨g1,g2,g3⟩:=(Hk (F:=fl||BN p) (da:=da) (na:=na) (ea:=ea) hv.files h8).2 _ hst;exact⟨_,_,g3,⟨_,_,g1,(by first|exact BJ _|exact hq12),g2.symm.trans hT,rfl,Nat.le_trans (Nat.le_of_lt g3) hmq,rfl⟩,(by(try simp only[List.map_append]);exact Az 5 0 rfl rfl rfl rfl ((by repeat (first|exact Sub.nil|refine B0 rfl rfl ?_|refine B2 ?_|refine B3 rfl ?_|refine B4 rfl ?_))))⟩
    have hc20:=bp hb20;have hst:By s (fl||BN p) q qs a lk= .inr ⟨Cq (Ah s.files (AB s.files a q).1).target++qs,a,⟨#[]⟩,a,true,lk+1⟩:=by unfold By;rw[if_neg (by simp[hc6]),if_neg (by omega),if_neg hc8,if_neg hc10,if_neg (by simp[hc12]),if_pos hlk,if_neg (by omega),if_neg (by simp[hc20])]
    refine AN (w_ (m_ (h:=JJ (h:=m_ (h:=JJ (h:=a_ (h:=e_ (w_ (l_ (h:=l_ (h:=AX (h:=s_ (h:=e_ (BX (Aw (BY (?_)))))))))))))))));refine AF ?_;obtain⟨g1,g2,g3⟩:=(Hk (F:=fl||BN p) (da:=da) (na:=na) (ea:=ea) hv.files h8).2 _ hst;exact⟨_,_,g3,⟨_,_,g1,(by first|exact BJ _|exact hq12),g2.symm.trans hT,rfl,Nat.le_trans (Nat.le_of_lt g3) hmq,rfl⟩,(by(try simp only[List.map_append]);exact Az 5 0 rfl rfl rfl rfl ((by repeat (first|exact Sub.nil|refine B0 rfl rfl ?_|refine B2 ?_|refine B3 rfl ?_|refine B4 rfl ?_))))⟩
   have hc18:=bp hb18
   have hlk:¬((Ah s.files (AB s.files a q).1).kind=3∧(qs≠[]∨(fl||BN p)=true)):=fun h=>by
    rw[decide_eq_true h.1,Bool.true_and,Bool.or_eq_false_iff]at hc18;rcases h.2 with e|e
    ·exact e (Dd (by have:=of_decide_eq_false hc18.1;omega))
    rw[hc18.2]at e;cases e
   have hst:By s (fl||BN p) q qs a lk= .inr ⟨qs,a,q,Cv s s.mounts.length (AB s.files a q).1,true,lk⟩:=by unfold By;rw[if_neg (by simp[hc6]),if_neg (by omega),if_neg hc8,if_neg hc10,if_neg (by simp[hc12]),if_neg hlk]
   refine AN (BO ([(0,Ao s),(3,AE a),(5,AE (AB s.files a q).1)]) 6 (h:=AM 0 (h:=AO 1 (h:=AM 2 (h:=AM 3 (h:=?_))))));refine c_ 4 rfl (AK (Ry hs.b hv (AB s.files a q).1) ?_);rintro r rfl;refine o_ (h:=Hb 5 (h:=?_));refine Aj 6 rfl (Af rfl rfl rfl rfl rfl rfl (by repeat constructor) (by repeat constructor) ?_);refine o_ (h:=z_ (h:=B8 (?_)));refine AF ?_;obtain⟨g1,g2,g3⟩:=(Hk (F:=fl||BN p) (da:=da) (na:=na) (ea:=ea) hv.files h8).2 _ hst;exact⟨_,_,g3,⟨_,_,g1,(by first|exact BJ _|exact hq12),g2.symm.trans hT,rfl,Nat.le_trans (Nat.le_of_lt g3) hmq,rfl⟩,(by(try simp only[List.map_append]);exact Az 5 0 rfl rfl rfl rfl ((by repeat (first|exact Sub.nil|refine B0 rfl rfl ?_|refine B2 ?_|refine B3 rfl ?_|refine B4 rfl ?_))))⟩
  have hc5:=bp hb5;have hc5:¬(0:Int)<((ps0.map DF).length:Int):=hc5;have e5:ps0=[]:=Dd (by omega);subst e5;have hfin:=hT.symm.trans (Rh (s:=s) (fl:=fl||BN p) (σ:=⟨[],da,na,a,ea,lk⟩) rfl);refine BX (Aw (Aw (BY (?_))));refine AF ?_;exact⟨_,⟨_,_,hfin,(by first|exact Nat.le_trans hna (by decide)|exact Nat.le_trans hq12 (by decide)),rfl⟩,(wk 5 0)⟩
 rintro t ⟨τ,d,hT,hnm,rfl⟩;refine q_ (?_);refine Jp (⟨look [(4, .bp 0 0),(8, .bp 2 0),(12, .v (.bool (BN p))),(14, .bp 4 0),(171, .v (.bool (BN p&&(τ.ex&& !AT s.files τ.file))))],⟨[Ao s,AE start,Aq Dh,AE d,NY τ],[]⟩⟩) ?_ ?_
 ·skip
  refine AQ (m_ (h:=m_ (h:=?_)));refine B5 true rfl rfl (fun hb21=>?_) (fun hb21=>?_)
  ·have hc21:=bp hb21;refine f_ (h:=l_ (h:=Ag (h:=m_ (h:=?_))));refine B5 true rfl rfl (fun hb22=>?_) (fun hb22=>?_)
   ·have hc22:=bp hb22;have hx:τ.ex=true:=hb22;refine f_ (h:=l_ (h:=f_ (h:=l_ (h:=?_))));refine BB (AK (Gl s.files τ.file hs.b.files) ?_);rintro r rfl;refine BG (h:=Ag (h:=AP (?_)));refine AF ?_
    first|(exfalso;first|contradiction|omega)|exact Az 5 0 rfl rfl rfl rfl (by repeat (first|exact Sub.nil|refine B0 rfl rfl ?_|refine B2 ?_|refine B3 rfl ?_|refine B4 rfl ?_|(apply Sub.of;(focus exact rfl);(focus exact LeA.of_eq (vb (by first|(rw[hb21];rfl)|(rw[hb21,hx];rfl))));(focus exact rfl))))
   have hc22:=bp hb22;have hx:τ.ex=false:=hb22;refine A3 (h:=A3 (h:=A3 (h:=A3 (h:=A3 (h:=A3 (h:=Ar (h:=AP (?_))))))));refine AF ?_
   first|(exfalso;first|contradiction|omega)|exact Az 5 0 rfl rfl rfl rfl (by repeat (first|exact Sub.nil|refine B0 rfl rfl ?_|refine B2 ?_|refine B3 rfl ?_|refine B4 rfl ?_|(apply Sub.of;(focus exact rfl);(focus exact LeA.of_eq (vb (by first|(rw[hb21];rfl)|(rw[hb21,hx];rfl))));(focus exact rfl))))
  have hc21:=bp hb21;refine A3 (h:=A3 (h:=Ar (h:=m_ (h:=A3 (h:=A3 (h:=A3 (h:=A3 (h:=A3 (h:=A3 (h:=Ar (h:=AP (?_))))))))))));refine AF ?_
  first|(exfalso;first|contradiction|omega)|exact Az 5 0 rfl rfl rfl rfl (by repeat (first|exact Sub.nil|refine B0 rfl rfl ?_|refine B2 ?_|refine B3 rfl ?_|refine B4 rfl ?_|(apply Sub.of;(focus exact rfl);(focus exact LeA.of_eq (vb (by first|(rw[hb21];rfl)|(rw[hb21,hx];rfl))));(focus exact rfl))))
 skip
 refine A8 rfl (fun hb23=>?_) (fun hb23=>?_)
 ·have hc23:=bp hb23;refine w_ (AX (h:=s_ (h:=a_ (h:=e_ (A4 (A7 (?_)))))));refine AJ ?_;rw[WS hc1 (by omega) ha had hT (by simp only[Bool.and_eq_true,Bool.not_eq_true']at hc23;exact hc23)];rfl
 have hc23:=bp hb23;refine AN (w_ (m_ (h:=f_ (h:=s_ (h:=e_ (q_ (w_ (l_ (h:=f_ (h:=l_ (h:=?_)))))))))));refine A6 rfl (AK (eS hs.b hv τ.dir) ?_);rintro r rfl;refine m_ (h:=x_ (h:=x_ (h:=a_ (h:=a_ (h:=e_ (w_ (m_ (h:=e_ (?_)))))))));refine A8 rfl (fun hb24=>?_) (fun hb24=>?_)
 ·have hc24:=bp hb24;refine w_ (m_ (h:=f_ (h:=s_ (h:=e_ (w_ (f_ (h:=l_ (h:=BV (h:=e_ (?_))))))))));refine A8 rfl (fun hb25=>?_) (fun hb25=>?_)
  ·have hc25:=bp hb25;refine AQ (m_ (h:=f_ (h:=l_ (h:=?_))));refine A6 rfl (AK (VL (Bp s τ.dir).1 τ.name (by have:=hw τ.dir;omega) (by omega)) ?_);rintro r rfl;refine f_ (h:=s_ (h:=e_ (w_ (l_ (h:=s_ (h:=a_ (h:=e_ (A4 (?_)))))))));refine AJ ?_;rw[PF hc1 (by omega) ha had hT (fun h=>by rw[h.1,h.2.1,h.2.2]at hc23;cases hc23),show GT s (BN p) τ=⟨τ.dir,τ.name,τ.file,τ.ex,BN p,DX (Bp s τ.dir).1 τ.name⟩ by unfold GT;rw[if_pos hc24,if_neg hc25]];rfl
  have hc25:=bp hb25;refine AN (w_ (l_ (h:=s_ (h:=a_ (h:=e_ (A4 (?_)))))));refine AJ ?_;rw[PF hc1 (by omega) ha had hT (fun h=>by rw[h.1,h.2.1,h.2.2]at hc23;cases hc23),show GT s (BN p) τ=⟨τ.dir,τ.name,τ.file,τ.ex,BN p,(Bp s τ.dir).1⟩ by unfold GT;rw[if_pos hc24,if_pos hc25]];rfl
 have hc24:=bp hb24;refine AN (w_ (l_ (h:=s_ (h:=a_ (h:=e_ (A4 (?_)))))));refine AJ ?_;rw[PF hc1 (by omega) ha had hT (fun h=>by rw[h.1,h.2.1,h.2.2]at hc23;cases hc23),show GT s (BN p) τ=⟨τ.dir,τ.name,τ.file,τ.ex,BN p,⟨#[]⟩⟩ by unfold GT;rw[if_neg (by simp[hc24])]];rfl
end
theorem WW:∀(l:List Dsc) (k:Nat),Ei k l≤k+l.length
 |[],k=>BA _
 |d::l,k=>by
   unfold Ei;split
   ·have:=WW l (k+1);simp only[List.length_cons];omega
   omega
theorem iV{α:Type}{l:List α}{j:Nat}{x:α}(h:l[j]?=some x):l.drop j=x::l.drop (j+1):=by
 obtain⟨hl,rfl⟩:=As.1 h;exact List.drop_eq_getElem_cons hl
def WX(p:Prc)(x:AV):List AV:=[.v (.int .i64 p.pid), .v (.int .i64 p.ppid), .v (.int .i64 p.uid), .v (.int .i64 p.euid), .v (.int .i64 p.gid), .v (.int .i64 p.egid), .v (.int .i64 p.auid), .v (.int .i64 p.ses), .v (.int .i64 p.cwd.1), .v (.int .i64 p.cwd.2), .v (.string p.comm), .v (.string p.exe),x, .v (.bool p.audited)]
theorem WY(p:Prc)(rows:List (List AV))(g:Option Nat)(l:List Dsc)(h:rows=l.map Fc):LeA (.agg (WX p (.sl 4 rows g))) (.agg (B1 {p with opens:=l})):=by
 subst h;unfold WX B1
 repeat (first|exact A9 _|exact LeA.tok _ _ _|refine LeA.agg ?_|exact LeL.nil|refine LeL.cons ?_ ?_)
def Cg(R:Tab×Int):AV:= .tup [.agg (Ax R.1), .v (.int .i64 R.2)]
def Ja(R:Tab×Int×Int):AV:= .tup [.agg (Ax R.1), .v (.int .i64 R.2.1), .v (.int .i64 R.2.2)]
theorem Ek(e:Int):LeA (.tup [.agg D7, .v (.int .i64 e)]) (Cg (Db,e)):=(by repeat (first|exact A9 _|exact LeA.nil _|exact LeL.refl _|refine LeA.agg ?_|refine LeA.tup ?_|exact LeL.nil|refine LeL.cons ?_ ?_|exact LeA.any _))
theorem NZ(n e:Int):LeA (.tup [.agg D7, .v (.int .i64 n), .v (.int .i64 e)]) (Ja (Db,n,e)):=(by repeat (first|exact A9 _|exact LeA.nil _|exact LeL.refl _|refine LeA.agg ?_|refine LeA.tup ?_|exact LeL.nil|refine LeL.cons ?_ ?_|exact LeA.any _))
def PH(R:Syst×Int):AV:= .tup [.agg (Bn R.1), .v (.int .i64 R.2)]
def CN(w:Wrk):AV:= .sl 8 (w.found.map Aq) none
section
theorem WZ(t:Tab)(pid:Int)(a:AA)(flags:Int)(ht:TabB t):AFn prog 151 [.agg (Ax t), .v (.int .i64 pid), .agg (AE a), .v (.int .i64 flags)] (fun r=>r=Ja (Et t pid a flags)):=by
 have h8:=G9 ht pid;have hol:((AW t pid).opens.map Fc).length=(AW t pid).opens.length:=List.length_map _;have hfl:Ei 0 (AW t pid).opens≤(AW t pid).opens.length:=by have:=WW (AW t pid).opens 0;omega
 refine enter Tryz.func151 rfl rfl rfl rfl rfl 0 rfl ?_;refine w_ (b_ (h:=b_ (h:=AZ (h:=a_ (h:=a_ (h:=e_ (w_ (l_ (h:=m_ (h:=?_))))))))));refine A6 rfl (AK (GA t pid ht) ?_);rintro r rfl;refine m_ (h:=x_ (h:=x_ (h:=AZ (h:=s_ (h:=a_ (h:=e_ (q_ (w_ (m_ (h:=BG (h:=e_ (?_))))))))))));refine A8 rfl (fun hb1=>?_) (fun hb1=>?_)
 ·have hc1:=bp hb1;refine w_ (AX (h:=s_ (h:=a_ (h:=a_ (h:=e_ (A4 (A7 (?_))))))));refine Am (r:=Ja (Et t pid a flags)) none (h5:=?_) (h6:=⟨rfl,rfl,rfl⟩);rw[Et,if_pos (by simpa using hc1)];exact NZ _ _
 have hc1:=bp hb1;have hhas:C8 t pid=true:=by simpa using hc1
 refine AN (q_ (w_ (f_ (h:=l_ (h:=n_ (h:=GL (h:=e_ (?_))))))));refine A8 rfl (fun hb2=>?_) (fun hb2=>?_)
 ·have hc2:=bp hb2;refine w_ (AX (h:=s_ (h:=a_ (h:=a_ (h:=e_ (A4 (A7 (?_))))))));refine Am (r:=Ja (Et t pid a flags)) none (h5:=?_) (h6:=⟨rfl,rfl,rfl⟩);rw[Et,if_neg (by simp[hhas]),if_pos (by omega)];exact NZ _ _
 have hc2:=bp hb2;refine AN (w_ (a_ (h:=e_ (?_))));refine BE (fun s=>s=⟨look [(3, .v (.int .i64 flags)),(4, .bp 0 0),(6, .bp 1 0),(8, .bp 2 0),(11, .bp 3 0),(13, .v (.int .i64 (Ei 0 (AW t pid).opens:Nat)))],⟨[Ax t,AE a,D7,B1 (AW t pid)],[]⟩⟩) ?_ ?_
 ·skip
  refine Av (?_);refine Bq (fun m s=>∃j:Nat,j≤(AW t pid).opens.length∧m=(AW t pid).opens.length - j∧Ei 0 (AW t pid).opens=Ei j ((AW t pid).opens.drop j)∧s=⟨look [(3, .v (.int .i64 flags)),(4, .bp 0 0),(6, .bp 1 0),(8, .bp 2 0),(11, .bp 3 0),(13, .v (.int .i64 (j:Int)))],⟨[Ax t,AE a,D7,B1 (AW t pid)],[]⟩⟩) ((AW t pid).opens.length) ((wk 4 0)) (⟨0,BJ _,rfl,rfl,rfl⟩) ?_;rintro m s ⟨j,hj,rfl,hfd,rfl⟩;refine q_ (w_ (m_ (h:=f_ (h:=l_ (h:=n_ (h:=BS (h:=m_ (h:=?_))))))));refine B5 true rfl rfl (fun hb3=>?_) (fun hb3=>?_)
  ·have hc3:=bp hb3;obtain⟨hlt,d,hy,hrow, -⟩:=Cu Fc hc3;have hdr:=iV hy;refine f_ (h:=l_ (h:=m_ (h:=i_ (h:=f_ (h:=l_ (h:=m_ (h:=AR (h:=Ag (h:=e_ (?_))))))))));refine A8 rfl (fun hb4=>?_) (fun hb4=>?_)
   ·have hc4:=bp hb4;have heq:d.fd=(j:Int):=by simpa using hc4
    refine AN (Av (AQ (m_ (h:=BH (h:=a_ (h:=AP (B8 (?_))))))));refine AF ?_;refine⟨_,_,?_,⟨j+1,by omega,rfl,by rw[hfd,hdr,Ei,if_pos heq],rfl⟩,(wk 4 0)⟩;omega
   have hc4:=bp hb4;have hend:Ei 0 (AW t pid).opens=j:=by rw[hfd,hdr,Ei,if_neg (by simpa using hc4)]
   refine BX (Aw (Aw (BY (?_))));refine AF ?_;refine⟨_,rfl,?_⟩;rw[hend];exact(wk 4 0)
  have hc3:=bp hb3;have hend:Ei 0 (AW t pid).opens=j:=by rw[hfd,D0 Fc hj hc3,List.drop_length];rfl
  refine A3 (h:=A3 (h:=A3 (h:=A3 (h:=A3 (h:=A3 (h:=A3 (h:=A3 (h:=Ar (h:=e_ (GJ (h:=BX (Aw (Aw (BY (?_)))))))))))))));refine AF ?_;refine⟨_,rfl,?_⟩;rw[hend];exact(wk 4 0)
 rintro s rfl;refine w_ (f_ (h:=l_ (h:=m_ (h:=?_))));refine A6 rfl (YK (k:=Ei 0 (AW t pid).opens) rfl rfl rfl (by omega) ?_)
 first|refine A6 rfl (EO rfl rfl rfl (by simp;omega) (by repeat constructor) ?_)|refine A6 rfl (JF rfl rfl (by simp;omega) (by repeat constructor) ?_)
 refine a_ (h:=e_ (w_ (m_ (h:=m_ (h:=l_ (h:=m_ (h:=AX (h:=Bw (h:=?_)))))))));refine A6 rfl (EO rfl rfl rfl (by simp;omega) (by repeat constructor) ?_);refine a_ (h:=e_ (w_ (m_ (h:=f_ (h:=l_ (h:=m_ (h:=?_)))))));refine A6 rfl (Px (l:=Ei 0 (AW t pid).opens) rfl rfl rfl (by omega) ?_);refine A6 rfl (EO rfl rfl rfl (by simp;omega) (by repeat constructor) ?_);refine f_ (h:=s_ (h:=e_ (w_ (l_ (h:=?_)))));refine A6 rfl (FF (y:= .agg (B1 {AW t pid with opens:=Ln (AW t pid).opens (Ei 0 (AW t pid).opens) ⟨(Ei 0 (AW t pid).opens:Nat),a,flags⟩})) (GE rfl rfl rfl ⟨rfl,rfl⟩) (WY _ _ _ _ (by simp[Ln,Fc];rfl)) ?_);refine A6 rfl (AK (Kq t {AW t pid with opens:=Ln (AW t pid).opens (Ei 0 (AW t pid).opens) ⟨(Ei 0 (AW t pid).opens:Nat),a,flags⟩} ht (KD hhas) (by simp[Ln];omega)) ?_);rintro r rfl;refine m_ (h:=s_ (h:=a_ (h:=a_ (h:=e_ (A4 (?_))))));refine AJ ?_;rw[Et,if_neg (by simp[hhas]),if_neg (by omega)];rfl
theorem iW(a:AA):AFn prog 85 [.agg (AE a)] (fun r=>r= .agg (Ax (Ll a))):=by
 refine enter Tryz.func85 rfl rfl rfl rfl rfl 0 rfl ?_;refine w_ (b_ (h:=AZ (h:=e_ (w_ (l_ (h:=?_))))));refine A6 rfl (Ex (y:= .agg (B1 ⟨1,0,0,0,0,0,4294967295,4294967295,a,⟨#[105,110,105,116]⟩,⟨#[47,105,110,105,116]⟩,[],true⟩)) (DD ⟨rfl,rfl⟩) ?_);refine Bw (h:=AX (h:=s_ (h:=e_ (A4 (?_)))));refine AJ ?_;rfl
theorem Wa(n:Int):AFn prog 44 [.v (.int .i64 n)] (fun r=>r=PH (H6 n)):=by
 refine enter Tryz.func44 rfl rfl rfl rfl rfl 0 rfl ?_;refine w_ (AZ (h:=a_ (h:=e_ (w_ (m_ (h:=?_))))));refine A6 rfl (AK (Z6 n) ?_);rintro r rfl;refine m_ (h:=x_ (h:=x_ (h:=AZ (h:=s_ (h:=a_ (h:=e_ (q_ (w_ (m_ (h:=BV (h:=e_ (?_))))))))))));refine A8 rfl (fun hb1=>?_) (fun hb1=>?_)
 ·have hc1:=bp hb1;refine w_ (AX (h:=m_ (h:=s_ (h:=a_ (h:=e_ (A4 (A7 (?_))))))));refine Am (r:=PH (H6 n)) none (h5:=?_) (h6:=⟨rfl,rfl,rfl⟩);rw[H6,if_pos (by simpa using hc1)];exact(by repeat (first|exact A9 _|exact LeA.nil _|exact LeL.refl _|refine LeA.agg ?_|refine LeA.tup ?_|exact LeL.nil|refine LeL.cons ?_ ?_|exact LeA.any _))
 have hc1:=bp hb1;refine AN (q_ (BO ([(1,Ay (En n).1)]) 7 (h:=AM 0 (h:=Hb 1 (h:=Hb 2 (h:=?_))))));refine c_ 3 rfl (AK (iW (0,1)) ?_);rintro r rfl;refine o_ (h:=Hb 4 (h:=?_));refine Aj 5 rfl (Af rfl rfl rfl rfl rfl rfl (by repeat constructor) (by repeat constructor) ?_);refine o_ (h:=BK 6 (h:=z_ (h:=t_ (A4 (?_)))));refine Am (r:=PH (H6 n)) none (h5:=?_) (h6:=⟨rfl,rfl,rfl⟩);rw[H6,if_neg (by simpa using hc1)];exact(by repeat (first|exact A9 _|exact LeA.nil _|exact LeL.refl _|refine LeA.agg ?_|refine LeA.tup ?_|exact LeL.nil|refine LeL.cons ?_ ?_|exact LeA.any _))
theorem H9(s:Syst)(hs:SpcB s.spc)(ht:TabB s.tab):AFn prog 64 [.agg (Bn s)] (fun r=>r= .agg (Bn s)):=by
 refine enter Tryz.func64 rfl rfl rfl rfl rfl 0 rfl ?_;refine w_ (b_ (h:=AZ (h:=e_ (q_ (BO ([(0,Bn s)]) 7 (h:=AG 0 (h:=?_)))))));refine AM 1 (h:=?_);refine AG 3 (h:=?_);refine AM 4 (h:=?_);refine c_ 2 rfl (AK (g9 s.spc hs) ?_);rintro r rfl;refine o_ (h:=?_);refine c_ 5 rfl (AK (Vi s.tab ht) ?_);rintro r rfl;refine o_ (h:=Hb 6 (h:=?_));refine Aj 7 rfl (Af rfl rfl rfl rfl rfl rfl (by repeat constructor) (by repeat constructor) ?_);refine o_ (h:=z_ (h:=t_ (A4 (?_))));refine AJ ?_;rfl
theorem iX(s:Spc)(given:AD)(perm:Int)(f:Fnd)(hs:SpcB s):AFn prog 112 [.agg (Ao s), .v (.string given), .v (.int .i64 perm), .agg (Aq f)] (fun r=>r= .agg (CL (NN s given perm f))):=by
 refine enter Tryz.func112 rfl rfl rfl rfl rfl 0 rfl ?_;refine w_ (b_ (h:=b_ (h:=AZ (h:=e_ (w_ (f_ (h:=l_ (h:=f_ (h:=l_ (h:=?_))))))))));refine A6 rfl (AK (ED s.files f.file hs.files) ?_);rintro r rfl;refine m_ (h:=x_ (h:=x_ (h:=AZ (h:=s_ (h:=a_ (h:=e_ (w_ (m_ (h:=f_ (h:=l_ (h:=f_ (h:=l_ (h:=f_ (h:=l_ (h:=f_ (h:=l_ (h:=f_ (h:=l_ (h:=f_ (h:=l_ (h:=f_ (h:=l_ (h:=f_ (h:=?_))))))))))))))))))))))));refine l_ (h:=m_ (h:=AX (h:=s_ (h:=e_ (A4 (?_))))));refine AJ ?_;rfl
theorem Hl(w:Wrk)(its:AV)(a:AA)(want:Int)(hs:SpcB w.s.spc):AFn prog 149 [.fp (D6 w (CN w) its), .agg (AE a), .v (.int .i64 want)] (fun r=>r= .v (.bool (CA w a want))):=by
 refine enter Tryz.func149 rfl rfl rfl rfl rfl 0 rfl ?_;refine w_ (b_ (h:=a_ (h:=e_ (q_ (BO ([(0,AE a)]) 14 (h:=AO 0 (h:=BC 1 (h:=AG 2 (h:=AG 3 (h:=AG 4 (h:=AM 5 (h:=AM 6 (h:=?_)))))))))))));refine Co 7 11 rfl rfl ?_ ?_
 ·refine AK (ED w.s.spc.files a hs.files) ?_;rintro r rfl;refine o_ (h:=?_);refine AO 8 (h:=Au 9 (h:=Au 10 (h:=?_)));refine c_ 11 rfl (BQ (by repeat constructor) ?_);refine o_ (h:=?_);refine Aj 12 rfl (Af rfl rfl rfl rfl rfl rfl (by repeat constructor) (by repeat constructor) ?_);refine o_ (h:=BK 13 (h:=z_ (h:=t_ (q_ (E4 14 (h:=AM 0 (h:=AO 1 (h:=BC 2 (h:=AG 3 (h:=AG 4 (h:=AM 5 (h:=AO 6 (h:=BC 7 (h:=AG 8 (h:=AG 9 (h:=AM 10 (h:=AO 11 (h:=?_))))))))))))))))));refine c_ 12 rfl (AK (Vl (Ah w.s.spc.files a) w.p.euid w.p.egid want) ?_);rintro r rfl;refine o_ (h:=BK 13 (h:=z_ (h:=t_ (A4 (?_)))));refine AJ ?_;rfl
 refine BQ (by repeat constructor) ?_;refine o_ (h:=?_);refine c_ 7 rfl (AK (ED w.s.spc.files a hs.files) ?_);rintro r rfl;refine o_ (h:=AO 8 (h:=Au 9 (h:=Au 10 (h:=?_))));refine Aj 12 rfl (Af rfl rfl rfl rfl rfl rfl (by repeat constructor) (by repeat constructor) ?_);refine o_ (h:=BK 13 (h:=z_ (h:=t_ (q_ (E4 14 (h:=AM 0 (h:=AO 1 (h:=BC 2 (h:=AG 3 (h:=AG 4 (h:=AM 5 (h:=AO 6 (h:=BC 7 (h:=AG 8 (h:=AG 9 (h:=AM 10 (h:=AO 11 (h:=?_))))))))))))))))));refine c_ 12 rfl (AK (Vl (Ah w.s.spc.files a) w.p.euid w.p.egid want) ?_);rintro r rfl;refine o_ (h:=BK 13 (h:=z_ (h:=t_ (A4 (?_)))));refine AJ ?_;rfl
theorem KE(w:Wrk)(its:AV)(i:Nat)(f:Fnd)(hs:SpcB w.s.spc)(hf:w.found[i]?=some f):AFn prog 153 [.fp (D6 w (CN w) its), .v (.int .i64 (i:Int))] (fun r=>r= .v (.bool (AT w.s.spc.files f.file))):=by
 have hrow:(w.found.map Aq)[i]?=some (Aq f):=by rw[List.getElem?_map,hf];rfl
 refine enter Tryz.func153 rfl rfl rfl rfl rfl 0 rfl ?_;refine w_ (a_ (h:=e_ (q_ (E4 16 (h:=AO 0 (h:=BC 1 (h:=AG 2 (h:=AG 3 (h:=AG 4 (h:=AM 5 (h:=AO 6 (h:=BC 7 (h:=AG 8 (h:=AM 9 (h:=AO 10 (h:=EC 11 (h:=AG 12 (h:=AM 13 (h:=?_)))))))))))))))))));refine c_ 14 rfl (AK (Gl w.s.spc.files f.file hs.files) ?_);rintro r rfl;refine o_ (h:=BK 15 (h:=z_ (h:=t_ (A4 (?_)))));refine AJ ?_;rfl
theorem Wc(w:Wrk)(its:AV)(a:AA)(hs:SpcB w.s.spc)(hp:w.s.tab.ps.length≤1000):AFn prog 156 [.fp (D6 w (CN w) its), .agg (AE a)] (fun r=>r= .v (.bool (G5 w a))):=by
 refine enter Tryz.func156 rfl rfl rfl rfl rfl 0 rfl ?_;refine w_ (b_ (h:=a_ (h:=e_ (q_ (q_ (E4 7 (h:=AO 0 (h:=BC 1 (h:=AG 2 (h:=AG 3 (h:=AM 4 (h:=AM 5 (h:=?_)))))))))))));refine c_ 6 rfl (AK (Tk w.s.spc a hs) ?_);rintro r rfl;refine o_ (h:=z_ (h:=t_ (?_)));refine A8 rfl (fun hb1=>?_) (fun hb1=>?_)
 ·have hc1:=bp hb1;refine w_ (a_ (h:=e_ (A4 (A7 (?_)))));refine AJ ?_
  first|(exfalso;first|contradiction|omega)|(exact vb (by simp[G5, *]))
 have hc1:=bp hb1;refine AN (q_ (w_ (a_ (h:=e_ (Av (?_))))));refine Bq (fun m s=>∃j:Nat,j≤w.s.tab.ps.length∧m=w.s.tab.ps.length - j∧(∀i y,i<j→w.s.tab.ps[i]?=some y→decide (y.cwd=a)=false)∧s=⟨look [(0, .fp (D6 w (CN w) its)),(3, .bp 0 0),(5, .v (.int .i64 (j:Int)))],⟨[AE a],[]⟩⟩) (w.s.tab.ps.length) ((wk 1 0)) (⟨0,BJ _,rfl,fun i y hi=>by omega,rfl⟩) ?_;rintro m s ⟨j,hj,rfl,ha,rfl⟩;refine q_ (w_ (m_ (h:=m_ (h:=k_ (h:=f_ (h:=f_ (h:=f_ (h:=l_ (h:=n_ (h:=BS (h:=e_ (?_))))))))))));refine A8 rfl (fun hb2=>?_) (fun hb2=>?_)
 ·have hc2:=bp hb2;obtain⟨hlt,p,hy,hrow, -⟩:=Cu B1 hc2;refine AN (q_ (Av (q_ (E4 12 (h:=AO 0 (h:=BC 1 (h:=AG 2 (h:=AG 3 (h:=AG 4 (h:=AM 5 (h:=AO 6 (h:=EC 7 (h:=AG 8 (h:=AM 9 (h:=AM 10 (h:=?_))))))))))))))));refine GG (i:=11) rfl (Fq rfl rfl (by repeat constructor) (by repeat constructor) (fun w=>LN _ _ _ _ w) (by kernel_rfl) ⟨rfl,rfl⟩) ?_;refine z_ (h:=t_ (?_));refine A8 rfl (fun hb3=>?_) (fun hb3=>?_)
  ·have hc3:=bp hb3;have hany:(w.s.tab.ps.any fun p=>decide (p.cwd=a))=true:=KZ hy (decide_eq_true hc3);refine w_ (a_ (h:=e_ (A4 (AY (A7 (A7 (AY (A7 (?_)))))))));refine AJ ?_
   first|(exfalso;first|contradiction|omega)|(exact vb (by simp[G5, *]))
  have hc3:=bp hb3;have hne:decide (p.cwd=a)=false:=decide_eq_false hc3;refine BM (B8 (t_ (AQ (m_ (h:=BH (h:=a_ (h:=AP (?_))))))));refine AF ?_;refine⟨_,_,?_,⟨j+1,by omega,rfl,EP hy ha hne,rfl⟩,(wk 1 0)⟩;omega
 have hc2:=bp hb2;have e:=D0 B1 hj hc2;have hany:(w.s.tab.ps.any fun p=>decide (p.cwd=a))=false:=LQ (by rw[←e];exact ha);refine BX (Aw (Aw (BY (t_ (w_ (a_ (h:=e_ (A4 (?_)))))))));refine AJ ?_
 first|(exfalso;first|contradiction|omega)|(exact vb (by simp[G5, *]))
end
end Go.Proofs.YtbglbmnhgbgelaaGreatDoor
