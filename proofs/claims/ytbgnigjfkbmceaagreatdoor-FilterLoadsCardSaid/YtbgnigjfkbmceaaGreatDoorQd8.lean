/-
  Part 8 of the proof of FilterLoadsP: what the statement's proof uses of the texts in wip/tpl.
-/
import Derived.Test.YtbgnigjfkbmceaaGreatDoorQd7
open Go.Proofs.Tryz (prog)
set_option maxRecDepth 10000
set_option maxHeartbeats 4000000
set_option linter.unusedVariables false
set_option linter.unusedSimpArgs false
namespace Go.Proofs.YtbgnigjfkbmceaaGreatDoor
open Go.RowKit
theorem DC{es:List BF}{j:Nat}{e:BF}(h:es[j]?=some e)(name:AG)(ino:Int)(dn:Bool):Ec name ino dn (es.drop j)=(if !dn&& !E2 e.1 name then[(name,ino)]else[])++((if e.1=name then[]else[e])++Ec name ino (dn|| !E2 e.1 name) (es.drop (j+1))):=by
 obtain⟨hj,rfl⟩:=Ah.1 h;rw[List.drop_eq_getElem_cons hj];rfl
section
theorem L5(f:AZ)(q:Nat)(d:Dvc)(n:Nod)(i:Nat)(a:AA)(name:AG)(ino:Int)(cap cap1:Nat)(hf:FlsB f)(hq:f[q]?=some d)(ha:a.1=(q:Int))(hi:ED f a=(i:Int))(hn:d.nodes[i]?=some n)(hcap:f.length≤cap)(hcap1:d.nodes.length≤cap1):
    ACall prog 232 [.agg [.bs 0 0 2 f.length cap], .agg (AD a), .v (.string name), .v (.int .i64 ino)] [DB f q d 1 cap cap1,NB d.nodes cap1] (fun r b t=>t=[]∧r= .tup []∧b=[DB f q d 1 cap cap1,NB (d.nodes.set i {n with entries:=CL n.entries name ino}) cap1]):=by
 have hql:=(Ah.1 hq).1;have hil:=(Ah.1 hn).1;have hen:=hf.ents d (Ar hq) n (Ar hn);have hN0:0+i * 8+8≤(NB d.nodes cap1).length:=by rw[Kw hcap1];omega
 have hD0:(DB f q d 1 cap cap1)[0+q * 2+1]?=some (.bs 1 0 8 d.nodes.length cap1):=G8 hql;have hset:SetAt (NB d.nodes cap1) (0+i * 8+7) [.sl 2 ((CL n.entries name ino).map CC) none] (NB (d.nodes.set i {n with entries:=CL n.entries name ino}) cap1):=Ou hn (by repeat constructor) (by simp);refine enter Tryz.func232 rfl rfl rfl rfl rfl 2 rfl ?_;refine w_ (b_ (h:=b_ (h:=e_ (?_))));refine CA (fun t=>t=⟨look [(2, .v (.string name)),(3, .v (.int .i64 ino)),(4, .bp 2 0),(5, .bp 3 0),(8, .bp 4 0)],⟨[DB f q d 1 cap cap1,NB d.nodes cap1,[.bs 0 0 2 f.length cap],AD a,Ak n],[]⟩⟩) ?_ ?_
 ·skip
  refine CE ([(0,DB f q d 1 cap cap1),(1,NB d.nodes cap1),(2,[.bs 0 0 2 f.length cap]),(3,AD a)]) 13 (h:=Ay 0 (h:=?_))
  first|refine AY 1 (h:=?_)|refine BK 1 rfl (fun _ hS=>BY (row:=DB f q d 1 cap cap1) rfl (kb hS rfl) hD0 ⟨rfl,rfl⟩) ?_|refine BK 1 rfl (fun _ hS=>Dr (row:=NB d.nodes cap1) rfl (kb hS rfl) hN0 (GZ hn) ⟨rfl,rfl⟩) ?_
  refine Ay 2 (h:=?_)
  first|refine AY 3 (h:=?_)|refine BK 3 rfl (fun _ hS=>BY (row:=DB f q d 1 cap cap1) rfl (kb hS rfl) hD0 ⟨rfl,rfl⟩) ?_|refine BK 3 rfl (fun _ hS=>Dr (row:=NB d.nodes cap1) rfl (kb hS rfl) hN0 (GZ hn) ⟨rfl,rfl⟩) ?_
  refine BK 4 rfl (fun _ hS=>DJ (m:=q) rfl rfl ha hql ⟨rfl,rfl⟩) ?_;refine Ay 5 (h:=?_)
  first|refine AY 6 (h:=?_)|refine BK 6 rfl (fun _ hS=>BY (row:=DB f q d 1 cap cap1) rfl (kb hS rfl) hD0 ⟨rfl,rfl⟩) ?_|refine BK 6 rfl (fun _ hS=>Dr (row:=NB d.nodes cap1) rfl (kb hS rfl) hN0 (GZ hn) ⟨rfl,rfl⟩) ?_
  first|refine AY 7 (h:=?_)|refine BK 7 rfl (fun _ hS=>BY (row:=DB f q d 1 cap cap1) rfl (kb hS rfl) hD0 ⟨rfl,rfl⟩) ?_|refine BK 7 rfl (fun _ hS=>Dr (row:=NB d.nodes cap1) rfl (kb hS rfl) hN0 (GZ hn) ⟨rfl,rfl⟩) ?_
  first|refine AY 8 (h:=?_)|refine BK 8 rfl (fun _ hS=>BY (row:=DB f q d 1 cap cap1) rfl (kb hS rfl) hD0 ⟨rfl,rfl⟩) ?_|refine BK 8 rfl (fun _ hS=>Dr (row:=NB d.nodes cap1) rfl (kb hS rfl) hN0 (GZ hn) ⟨rfl,rfl⟩) ?_
  refine Gs 9 12 rfl rfl ?_ ?_
  ·refine Fc 2 rfl (.cons _ _ _ _ _ rfl (LeA.of_eq (HQ hq hcap hcap1 (BU _) (BU _) rfl rfl)) (.cons _ _ _ _ _ rfl (AX _) .nil)) (Gy f a hf) ?_;rintro r rfl;refine⟨rfl,?_⟩;refine o_ (h:=?_);refine BK 10 rfl (fun _ hS=>DJ (m:=i) rfl rfl hi hil ⟨rfl,rfl⟩) ?_
   first|refine AY 11 (h:=?_)|refine BK 11 rfl (fun _ hS=>BY (row:=DB f q d 1 cap cap1) rfl (kb hS rfl) hD0 ⟨rfl,rfl⟩) ?_|refine BK 11 rfl (fun _ hS=>Dr (row:=NB d.nodes cap1) rfl (kb hS rfl) hN0 (GZ hn) ⟨rfl,rfl⟩) ?_
   refine c_ 12 rfl (Dx (by repeat constructor) ?_);refine o_ (h:=?_);refine Bm 13 rfl (Bd rfl rfl rfl rfl rfl rfl (by repeat constructor) (by repeat constructor) ?_);refine o_ (h:=z_ (h:=?_));refine AK ?_;exact⟨_,rfl,C0 5 0 (by simp[BH,BD,B6,Bf,Bg,AD,Ak])⟩
  refine Dx (by repeat constructor) ?_;refine o_ (h:=?_);refine c_ 9 rfl (Fc 2 rfl (.cons _ _ _ _ _ rfl (LeA.of_eq (HQ hq hcap hcap1 (BU _) (BU _) rfl rfl)) (.cons _ _ _ _ _ rfl (AX _) .nil)) (Gy f a hf) ?_);rintro r rfl;refine⟨rfl,?_⟩;refine o_ (h:=?_);refine BK 10 rfl (fun _ hS=>DJ (m:=i) rfl rfl hi hil ⟨rfl,rfl⟩) ?_
  first|refine AY 11 (h:=?_)|refine BK 11 rfl (fun _ hS=>BY (row:=DB f q d 1 cap cap1) rfl (kb hS rfl) hD0 ⟨rfl,rfl⟩) ?_|refine BK 11 rfl (fun _ hS=>Dr (row:=NB d.nodes cap1) rfl (kb hS rfl) hN0 (GZ hn) ⟨rfl,rfl⟩) ?_
  refine Bm 13 rfl (Bd rfl rfl rfl rfl rfl rfl (by repeat constructor) (by repeat constructor) ?_);refine o_ (h:=z_ (h:=?_));refine AK ?_;exact⟨_,rfl,C0 5 0 (by simp[BH,BD,B6,Bf,Bg,AD,Ak])⟩
 rintro t rfl;refine w_ (a_ (h:=e_ (w_ (m_ (h:=AN (h:=a_ (h:=e_ (q_ (w_ (a_ (h:=e_ (Af (?_)))))))))))));refine KS 9 234 2 rfl (by repeat constructor) ?_;refine BW (fun m t=>∃(j:Nat) (acc:List BF) (dn:Bool),j≤n.entries.length∧m=n.entries.length - j∧acc++Ec name ino dn (n.entries.drop j)=CL n.entries name ino∧acc.length≤2 * j∧t=⟨look [(2, .v (.string name)),(3, .v (.int .i64 ino)),(4, .bp 2 0),(5, .bp 3 0),(8, .bp 4 0),(9, .sl 2 (acc.map CC) (some 0)),(10, .v (.bool dn)),(11, .v (.int .i64 (j:Int)))],⟨[DB f q d 1 cap cap1,NB d.nodes cap1,[.bs 0 0 2 f.length cap],AD a,Ak n],[(234,2,acc.map CC)]⟩⟩) (n.entries.length) (C0 5 1 (by simp[BH,BD,B6,Bf,Bg,AD,Ak])) (⟨0,[],_,BU _,rfl,rfl,by simp,rfl⟩) ?_;rintro m t ⟨j,acc,dn,hj,rfl,hacc,hal,rfl⟩;refine q_ (w_ (m_ (h:=f_ (h:=l_ (h:=n_ (h:=B1 (h:=e_ (?_))))))));refine A9 rfl (fun hb1=>?_) (fun hb1=>?_)
 ·have hc1:=bp hb1;obtain⟨hlt,e,hy,hrow, -⟩:=Bv CC hc1;refine AE (q_ (Af (q_ (w_ (m_ (h:=BB (h:=m_ (h:=?_))))))));refine AR true rfl rfl (fun hb2=>?_) (fun hb2=>?_)
  ·have hc2:=bp hb2;have hdn:=hc2;refine f_ (h:=l_ (h:=m_ (h:=i_ (h:=f_ (h:=l_ (h:=m_ (h:=DL (h:=AB (h:=e_ (?_))))))))));refine A9 rfl (fun hb3=>?_) (fun hb3=>?_)
   ·have hc3:=bp hb3;have hsl:E2 e.1 name=false:=hc3;refine w_ (m_ (h:=m_ (h:=m_ (h:=Ab (h:=Bo (h:=ES (h:=a_ (h:=e_ (AW (a_ (h:=e_ (w_ (f_ (h:=l_ (h:=m_ (h:=i_ (h:=f_ (h:=l_ (h:=m_ (h:=Ao (h:=e_ (?_))))))))))))))))))))));refine A9 rfl (fun hb4=>?_) (fun hb4=>?_)
    ·have hc4:=bp hb4;have hnm:¬e.1=name:=hc4;refine AW (m_ (h:=f_ (h:=l_ (h:=m_ (h:=i_ (h:=l_ (h:=Bo (h:=ES (h:=a_ (h:=AQ (Al (t_ (AW (m_ (h:=BE (h:=a_ (h:=AQ (?_))))))))))))))))));refine AK ?_
     first|(exact⟨n.entries.length - (j+1),_,by omega,⟨j+1,acc++[(name,ino)]++[e],true,by omega,rfl,(by rw[←hacc,DC hy];first|(simp only[hsl,hdn];simp[hnm];done)|(simp only[hdn];simp[hnm];done)),(by(try simp);omega),rfl⟩,(by(try simp only[List.map_append,List.map_cons,List.map_nil]);exact C0 5 1 (by simp[BH,BD,B6,Bf,Bg,AD,Ak]))⟩)|(exact⟨n.entries.length - (j+1),_,by omega,⟨j+1,acc++[(name,ino)],true,by omega,rfl,(by rw[←hacc,DC hy];first|(simp only[hsl,hdn];simp[hnm];done)|(simp only[hdn];simp[hnm];done)),(by(try simp);omega),rfl⟩,(by(try simp only[List.map_append,List.map_cons,List.map_nil]);exact C0 5 1 (by simp[BH,BD,B6,Bf,Bg,AD,Ak]))⟩)|(exact⟨n.entries.length - (j+1),_,by omega,⟨j+1,acc++[e],dn,by omega,rfl,(by rw[←hacc,DC hy];first|(simp only[hsl,hdn];simp[hnm];done)|(simp only[hdn];simp[hnm];done)),(by(try simp);omega),rfl⟩,(by(try simp only[List.map_append,List.map_cons,List.map_nil]);exact C0 5 1 (by simp[BH,BD,B6,Bf,Bg,AD,Ak]))⟩)|(exact⟨n.entries.length - (j+1),_,by omega,⟨j+1,acc,dn,by omega,rfl,(by rw[←hacc,DC hy];first|(simp only[hsl,hdn];simp[hnm];done)|(simp only[hdn];simp[hnm];done)),(by(try simp);omega),rfl⟩,(by(try simp only[List.map_append,List.map_cons,List.map_nil]);exact C0 5 1 (by simp[BH,BD,B6,Bf,Bg,AD,Ak]))⟩)
    have hc4:=bp hb4;have hnm:e.1=name:=hc4;refine Aw (Al (t_ (AW (m_ (h:=BE (h:=a_ (h:=AQ (?_))))))));refine AK ?_
    first|(exact⟨n.entries.length - (j+1),_,by omega,⟨j+1,acc++[(name,ino)]++[e],true,by omega,rfl,(by rw[←hacc,DC hy];first|(simp only[hsl,hdn];simp[hnm];done)|(simp only[hdn];simp[hnm];done)),(by(try simp);omega),rfl⟩,(by(try simp only[List.map_append,List.map_cons,List.map_nil]);exact C0 5 1 (by simp[BH,BD,B6,Bf,Bg,AD,Ak]))⟩)|(exact⟨n.entries.length - (j+1),_,by omega,⟨j+1,acc++[(name,ino)],true,by omega,rfl,(by rw[←hacc,DC hy];first|(simp only[hsl,hdn];simp[hnm];done)|(simp only[hdn];simp[hnm];done)),(by(try simp);omega),rfl⟩,(by(try simp only[List.map_append,List.map_cons,List.map_nil]);exact C0 5 1 (by simp[BH,BD,B6,Bf,Bg,AD,Ak]))⟩)|(exact⟨n.entries.length - (j+1),_,by omega,⟨j+1,acc++[e],dn,by omega,rfl,(by rw[←hacc,DC hy];first|(simp only[hsl,hdn];simp[hnm];done)|(simp only[hdn];simp[hnm];done)),(by(try simp);omega),rfl⟩,(by(try simp only[List.map_append,List.map_cons,List.map_nil]);exact C0 5 1 (by simp[BH,BD,B6,Bf,Bg,AD,Ak]))⟩)|(exact⟨n.entries.length - (j+1),_,by omega,⟨j+1,acc,dn,by omega,rfl,(by rw[←hacc,DC hy];first|(simp only[hsl,hdn];simp[hnm];done)|(simp only[hdn];simp[hnm];done)),(by(try simp);omega),rfl⟩,(by(try simp only[List.map_append,List.map_cons,List.map_nil]);exact C0 5 1 (by simp[BH,BD,B6,Bf,Bg,AD,Ak]))⟩)
   have hc3:=bp hb3;have hsl:E2 e.1 name=true:=hc3;refine AE (w_ (f_ (h:=l_ (h:=m_ (h:=i_ (h:=f_ (h:=l_ (h:=m_ (h:=Ao (h:=e_ (?_)))))))))));refine A9 rfl (fun hb5=>?_) (fun hb5=>?_)
   ·have hc5:=bp hb5;have hnm:¬e.1=name:=hc5;refine AW (m_ (h:=f_ (h:=l_ (h:=m_ (h:=i_ (h:=l_ (h:=Bo (h:=ES (h:=a_ (h:=AQ (Al (t_ (AW (m_ (h:=BE (h:=a_ (h:=AQ (?_))))))))))))))))));refine AK ?_
    first|(exact⟨n.entries.length - (j+1),_,by omega,⟨j+1,acc++[(name,ino)]++[e],true,by omega,rfl,(by rw[←hacc,DC hy];first|(simp only[hsl,hdn];simp[hnm];done)|(simp only[hdn];simp[hnm];done)),(by(try simp);omega),rfl⟩,(by(try simp only[List.map_append,List.map_cons,List.map_nil]);exact C0 5 1 (by simp[BH,BD,B6,Bf,Bg,AD,Ak]))⟩)|(exact⟨n.entries.length - (j+1),_,by omega,⟨j+1,acc++[(name,ino)],true,by omega,rfl,(by rw[←hacc,DC hy];first|(simp only[hsl,hdn];simp[hnm];done)|(simp only[hdn];simp[hnm];done)),(by(try simp);omega),rfl⟩,(by(try simp only[List.map_append,List.map_cons,List.map_nil]);exact C0 5 1 (by simp[BH,BD,B6,Bf,Bg,AD,Ak]))⟩)|(exact⟨n.entries.length - (j+1),_,by omega,⟨j+1,acc++[e],dn,by omega,rfl,(by rw[←hacc,DC hy];first|(simp only[hsl,hdn];simp[hnm];done)|(simp only[hdn];simp[hnm];done)),(by(try simp);omega),rfl⟩,(by(try simp only[List.map_append,List.map_cons,List.map_nil]);exact C0 5 1 (by simp[BH,BD,B6,Bf,Bg,AD,Ak]))⟩)|(exact⟨n.entries.length - (j+1),_,by omega,⟨j+1,acc,dn,by omega,rfl,(by rw[←hacc,DC hy];first|(simp only[hsl,hdn];simp[hnm];done)|(simp only[hdn];simp[hnm];done)),(by(try simp);omega),rfl⟩,(by(try simp only[List.map_append,List.map_cons,List.map_nil]);exact C0 5 1 (by simp[BH,BD,B6,Bf,Bg,AD,Ak]))⟩)
   have hc5:=bp hb5;have hnm:e.1=name:=hc5;refine Aw (Al (t_ (AW (m_ (h:=BE (h:=a_ (h:=AQ (?_))))))));refine AK ?_
   first|(exact⟨n.entries.length - (j+1),_,by omega,⟨j+1,acc++[(name,ino)]++[e],true,by omega,rfl,(by rw[←hacc,DC hy];first|(simp only[hsl,hdn];simp[hnm];done)|(simp only[hdn];simp[hnm];done)),(by(try simp);omega),rfl⟩,(by(try simp only[List.map_append,List.map_cons,List.map_nil]);exact C0 5 1 (by simp[BH,BD,B6,Bf,Bg,AD,Ak]))⟩)|(exact⟨n.entries.length - (j+1),_,by omega,⟨j+1,acc++[(name,ino)],true,by omega,rfl,(by rw[←hacc,DC hy];first|(simp only[hsl,hdn];simp[hnm];done)|(simp only[hdn];simp[hnm];done)),(by(try simp);omega),rfl⟩,(by(try simp only[List.map_append,List.map_cons,List.map_nil]);exact C0 5 1 (by simp[BH,BD,B6,Bf,Bg,AD,Ak]))⟩)|(exact⟨n.entries.length - (j+1),_,by omega,⟨j+1,acc++[e],dn,by omega,rfl,(by rw[←hacc,DC hy];first|(simp only[hsl,hdn];simp[hnm];done)|(simp only[hdn];simp[hnm];done)),(by(try simp);omega),rfl⟩,(by(try simp only[List.map_append,List.map_cons,List.map_nil]);exact C0 5 1 (by simp[BH,BD,B6,Bf,Bg,AD,Ak]))⟩)|(exact⟨n.entries.length - (j+1),_,by omega,⟨j+1,acc,dn,by omega,rfl,(by rw[←hacc,DC hy];first|(simp only[hsl,hdn];simp[hnm];done)|(simp only[hdn];simp[hnm];done)),(by(try simp);omega),rfl⟩,(by(try simp only[List.map_append,List.map_cons,List.map_nil]);exact C0 5 1 (by simp[BH,BD,B6,Bf,Bg,AD,Ak]))⟩)
  have hc2:=bp hb2;have hdn:=hc2;refine A3 (h:=A3 (h:=A3 (h:=A3 (h:=A3 (h:=A3 (h:=A3 (h:=A3 (h:=AF (h:=e_ (Be (h:=AE (w_ (f_ (h:=l_ (h:=m_ (h:=i_ (h:=f_ (h:=l_ (h:=m_ (h:=Ao (h:=e_ (?_))))))))))))))))))))));refine A9 rfl (fun hb6=>?_) (fun hb6=>?_)
  ·have hc6:=bp hb6;have hnm:¬e.1=name:=hc6;refine AW (m_ (h:=f_ (h:=l_ (h:=m_ (h:=i_ (h:=l_ (h:=Bo (h:=ES (h:=a_ (h:=AQ (Al (t_ (AW (m_ (h:=BE (h:=a_ (h:=AQ (?_))))))))))))))))));refine AK ?_
   first|(exact⟨n.entries.length - (j+1),_,by omega,⟨j+1,acc++[(name,ino)]++[e],true,by omega,rfl,(by rw[←hacc,DC hy];first|(simp only[hsl,hdn];simp[hnm];done)|(simp only[hdn];simp[hnm];done)),(by(try simp);omega),rfl⟩,(by(try simp only[List.map_append,List.map_cons,List.map_nil]);exact C0 5 1 (by simp[BH,BD,B6,Bf,Bg,AD,Ak]))⟩)|(exact⟨n.entries.length - (j+1),_,by omega,⟨j+1,acc++[(name,ino)],true,by omega,rfl,(by rw[←hacc,DC hy];first|(simp only[hsl,hdn];simp[hnm];done)|(simp only[hdn];simp[hnm];done)),(by(try simp);omega),rfl⟩,(by(try simp only[List.map_append,List.map_cons,List.map_nil]);exact C0 5 1 (by simp[BH,BD,B6,Bf,Bg,AD,Ak]))⟩)|(exact⟨n.entries.length - (j+1),_,by omega,⟨j+1,acc++[e],dn,by omega,rfl,(by rw[←hacc,DC hy];first|(simp only[hsl,hdn];simp[hnm];done)|(simp only[hdn];simp[hnm];done)),(by(try simp);omega),rfl⟩,(by(try simp only[List.map_append,List.map_cons,List.map_nil]);exact C0 5 1 (by simp[BH,BD,B6,Bf,Bg,AD,Ak]))⟩)|(exact⟨n.entries.length - (j+1),_,by omega,⟨j+1,acc,dn,by omega,rfl,(by rw[←hacc,DC hy];first|(simp only[hsl,hdn];simp[hnm];done)|(simp only[hdn];simp[hnm];done)),(by(try simp);omega),rfl⟩,(by(try simp only[List.map_append,List.map_cons,List.map_nil]);exact C0 5 1 (by simp[BH,BD,B6,Bf,Bg,AD,Ak]))⟩)
  have hc6:=bp hb6;have hnm:e.1=name:=hc6;refine Aw (Al (t_ (AW (m_ (h:=BE (h:=a_ (h:=AQ (?_))))))));refine AK ?_
  first|(exact⟨n.entries.length - (j+1),_,by omega,⟨j+1,acc++[(name,ino)]++[e],true,by omega,rfl,(by rw[←hacc,DC hy];first|(simp only[hsl,hdn];simp[hnm];done)|(simp only[hdn];simp[hnm];done)),(by(try simp);omega),rfl⟩,(by(try simp only[List.map_append,List.map_cons,List.map_nil]);exact C0 5 1 (by simp[BH,BD,B6,Bf,Bg,AD,Ak]))⟩)|(exact⟨n.entries.length - (j+1),_,by omega,⟨j+1,acc++[(name,ino)],true,by omega,rfl,(by rw[←hacc,DC hy];first|(simp only[hsl,hdn];simp[hnm];done)|(simp only[hdn];simp[hnm];done)),(by(try simp);omega),rfl⟩,(by(try simp only[List.map_append,List.map_cons,List.map_nil]);exact C0 5 1 (by simp[BH,BD,B6,Bf,Bg,AD,Ak]))⟩)|(exact⟨n.entries.length - (j+1),_,by omega,⟨j+1,acc++[e],dn,by omega,rfl,(by rw[←hacc,DC hy];first|(simp only[hsl,hdn];simp[hnm];done)|(simp only[hdn];simp[hnm];done)),(by(try simp);omega),rfl⟩,(by(try simp only[List.map_append,List.map_cons,List.map_nil]);exact C0 5 1 (by simp[BH,BD,B6,Bf,Bg,AD,Ak]))⟩)|(exact⟨n.entries.length - (j+1),_,by omega,⟨j+1,acc,dn,by omega,rfl,(by rw[←hacc,DC hy];first|(simp only[hsl,hdn];simp[hnm];done)|(simp only[hdn];simp[hnm];done)),(by(try simp);omega),rfl⟩,(by(try simp only[List.map_append,List.map_cons,List.map_nil]);exact C0 5 1 (by simp[BH,BD,B6,Bf,Bg,AD,Ak]))⟩)
 have hc1:=bp hb1;have e:=CM CC hj hc1;subst e;rw[List.drop_length]at hacc;refine BL (Ai (Ai (BM (t_ (q_ (w_ (m_ (h:=BB (h:=e_ (?_))))))))));refine A9 rfl (fun hb7=>?_) (fun hb7=>?_)
 ·have hc7:=bp hb7;have hdn:dn=false:=hc7;have ea:acc++[(name,ino)]=CL n.entries name ino:=by rw[←hacc,hdn];rfl
  refine AW (m_ (h:=m_ (h:=m_ (h:=Ab (h:=Bo (h:=ES (h:=a_ (h:=e_ (CE ([(0,DB f q d 1 cap cap1),(2,[.bs 0 0 2 f.length cap]),(3,AD a),(4,Ak n)]) 14 (h:=Ay 0 (h:=?_)))))))))))
  first|refine AY 1 (h:=?_)|refine BK 1 rfl (fun _ hS=>BY (row:=DB f q d 1 cap cap1) rfl (kb hS rfl) hD0 ⟨rfl,rfl⟩) ?_
  refine Ay 2 (h:=?_)
  first|refine AY 3 (h:=?_)|refine BK 3 rfl (fun _ hS=>BY (row:=DB f q d 1 cap cap1) rfl (kb hS rfl) hD0 ⟨rfl,rfl⟩) ?_
  refine BK 4 rfl (fun _ hS=>DJ (m:=q) rfl rfl ha hql ⟨rfl,rfl⟩) ?_;refine Ay 5 (h:=?_)
  first|refine AY 6 (h:=?_)|refine BK 6 rfl (fun _ hS=>BY (row:=DB f q d 1 cap cap1) rfl (kb hS rfl) hD0 ⟨rfl,rfl⟩) ?_
  first|refine AY 7 (h:=?_)|refine BK 7 rfl (fun _ hS=>BY (row:=DB f q d 1 cap cap1) rfl (kb hS rfl) hD0 ⟨rfl,rfl⟩) ?_
  first|refine AY 8 (h:=?_)|refine BK 8 rfl (fun _ hS=>BY (row:=DB f q d 1 cap cap1) rfl (kb hS rfl) hD0 ⟨rfl,rfl⟩) ?_
  refine BK 10 rfl (fun _ hS=>Fz (y:= .sl 2 ((CL n.entries name ino).map CC) none) (E6 rfl ⟨rfl,rfl⟩) (by rw[←ea];(try simp only[List.map_append,List.map_cons,List.map_nil]);exact LeA.tok _ _ _) ⟨rfl,rfl⟩) ?_;refine c_ 9 rfl (Fc 2 rfl (.cons _ _ _ _ _ rfl (LeA.of_eq (HQ hq hcap hcap1 (BU _) (BU _) rfl rfl)) (.cons _ _ _ _ _ rfl (AX _) .nil)) (Gy f a hf) ?_);rintro r rfl;refine⟨rfl,?_⟩;refine o_ (h:=?_);refine BK 11 rfl (fun _ hS=>DJ (m:=i) rfl rfl hi hil ⟨rfl,rfl⟩) ?_;refine Ay 12 (h:=?_);refine Bm 13 rfl (Bd rfl rfl rfl rfl rfl rfl hset (by repeat constructor) ?_);refine o_ (h:=z_ (h:=?_));refine OJ (r:= .tup []) none (h4:=(by simp[BH,Bf,Bg])) (h5:=(AX _)) (h6:=⟨rfl,rfl,rfl⟩)
 have hc7:=bp hb7;have hdn:dn=true:=hc7;have ea:acc=CL n.entries name ino:=by rw[←hacc,hdn];simp[Ec]
 refine AE (CE ([(0,DB f q d 1 cap cap1),(2,[.bs 0 0 2 f.length cap]),(3,AD a),(4,Ak n)]) 14 (h:=Ay 0 (h:=?_)))
 first|refine AY 1 (h:=?_)|refine BK 1 rfl (fun _ hS=>BY (row:=DB f q d 1 cap cap1) rfl (kb hS rfl) hD0 ⟨rfl,rfl⟩) ?_
 refine Ay 2 (h:=?_)
 first|refine AY 3 (h:=?_)|refine BK 3 rfl (fun _ hS=>BY (row:=DB f q d 1 cap cap1) rfl (kb hS rfl) hD0 ⟨rfl,rfl⟩) ?_
 refine BK 4 rfl (fun _ hS=>DJ (m:=q) rfl rfl ha hql ⟨rfl,rfl⟩) ?_;refine Ay 5 (h:=?_)
 first|refine AY 6 (h:=?_)|refine BK 6 rfl (fun _ hS=>BY (row:=DB f q d 1 cap cap1) rfl (kb hS rfl) hD0 ⟨rfl,rfl⟩) ?_
 first|refine AY 7 (h:=?_)|refine BK 7 rfl (fun _ hS=>BY (row:=DB f q d 1 cap cap1) rfl (kb hS rfl) hD0 ⟨rfl,rfl⟩) ?_
 first|refine AY 8 (h:=?_)|refine BK 8 rfl (fun _ hS=>BY (row:=DB f q d 1 cap cap1) rfl (kb hS rfl) hD0 ⟨rfl,rfl⟩) ?_
 refine BK 10 rfl (fun _ hS=>Fz (y:= .sl 2 ((CL n.entries name ino).map CC) none) (E6 rfl ⟨rfl,rfl⟩) (by rw[←ea];(try simp only[List.map_append,List.map_cons,List.map_nil]);exact LeA.tok _ _ _) ⟨rfl,rfl⟩) ?_;refine c_ 9 rfl (Fc 2 rfl (.cons _ _ _ _ _ rfl (LeA.of_eq (HQ hq hcap hcap1 (BU _) (BU _) rfl rfl)) (.cons _ _ _ _ _ rfl (AX _) .nil)) (Gy f a hf) ?_);rintro r rfl;refine⟨rfl,?_⟩;refine o_ (h:=?_);refine BK 11 rfl (fun _ hS=>DJ (m:=i) rfl rfl hi hil ⟨rfl,rfl⟩) ?_;refine Ay 12 (h:=?_);refine Bm 13 rfl (Bd rfl rfl rfl rfl rfl rfl hset (by repeat constructor) ?_);refine o_ (h:=z_ (h:=?_));refine OJ (r:= .tup []) none (h4:=(by simp[BH,Bf,Bg])) (h5:=(AX _)) (h6:=⟨rfl,rfl,rfl⟩)
end
theorem Mr{h:AH}{sz:Nat}{r:List AV}{tok:Option Nat}:SrcA h sz (.sl sz [r] tok) 1 r:=by
 have:=SrcA.sl (h:=h) (sz:=sz) [r] tok
 simpa using this
theorem Xd(n:Nod)(cap:Nat):Ak n++List.replicate ((cap - 1) * 8) .any=NB [n] cap:=by
 unfold NB C7;simp
theorem SS(acc:List Nod)(n:Nod)(cap0 cap:Nat):((NB acc cap0).drop 0).take (acc.length * 8)++Ak n++List.replicate ((cap - (acc.length+1)) * 8) .any=NB (acc++[n]) cap:=by
 unfold NB;rw[WY (H8 acc) (by simp),List.map_append];rfl
theorem ST{acc:List Nod}{n:Nod}{cap:Nat}{row:List AV}(hs:SetAt (NB acc cap) (0+acc.length * 8) (Ak n) row)(hc:acc.length+1≤cap):row=NB (acc++[n]) cap:=by
 have key:=WX (rows:=acc.map Ak) (sz:=8) (cap:=cap) (r:=Ak n) (row':=row) (H8 acc) rfl (by omega) (by simpa using hc) (by rw[List.length_map];exact hs);rw[key];unfold NB;rw[List.map_append];rfl
theorem P6{is:List Nat}:∀i,i<2→(0::1::is)[i]?=some i:=by
 intro i hi
 match i,hi with
 |0,_=>rfl
 |1,_=>rfl
theorem SU{ns:List Nod}{j:Nat}{n:Nod}(h:ns[j]?=some n)(ino:Int):CU ino (ns.take (j+1))=CU ino (ns.take j)++(if n.ino=ino then[]else[n]):=by
 unfold CU;rw[List.take_add_one,h,List.filter_append];by_cases e:n.ino=ino<;>simp[e]
section
theorem Xe(f:AZ)(q:Nat)(d:Dvc)(a:AA)(cap cap1:Nat)(hf:FlsB f)(hq:f[q]?=some d)(ha:a.1=(q:Int))(hcap:f.length≤cap)(hcap1:d.nodes.length≤cap1)(hne:0<(CU a.2 d.nodes).length):
    ACall prog 234 [.agg [.bs 0 0 2 f.length cap], .agg (AD a)] [DB f q d 1 cap cap1,NB d.nodes cap1] (fun r b t=>t=[]∧r= .tup []∧((0<FP f a∧b=[DB f q d 1 cap cap1,NB d.nodes cap1,[.bs 0 0 2 f.length cap],AD a])∨(FP f a=0∧∃cap2,(CU a.2 d.nodes).length≤cap2∧b=[DB f q {d with nodes:=CU a.2 d.nodes} 4 cap cap2,NB d.nodes cap1,[.bs 0 0 2 f.length cap],AD a,NB (CU a.2 d.nodes) cap2]))):=by
 have hql:=(Ah.1 hq).1;have hdn:=hf.nodes d (Ar hq);have hD0:(DB f q d 1 cap cap1)[0+q * 2+1]?=some (.bs 1 0 8 d.nodes.length cap1):=G8 hql;have hset:∀(acc:List Nod) (cap2:Nat),SetAt (DB f q d 1 cap cap1) (0+q * 2+1) [.bs 4 0 8 acc.length cap2] (DB f q {d with nodes:=acc} 4 cap cap2):=fun acc cap2=>Ov hql (by repeat constructor) (by simp);refine enter Tryz.func234 rfl rfl rfl rfl rfl 5 rfl ?_;refine w_ (b_ (h:=b_ (h:=e_ (q_ (w_ (l_ (h:=l_ (h:=?_))))))));refine A6 rfl (Fc 2 rfl (.cons _ _ _ _ _ rfl (LeA.of_eq (HQ hq hcap hcap1 (BU _) (BU _) rfl rfl)) (.cons _ _ _ _ _ rfl (AX _) .nil)) (Vu f a hf) ?_);rintro r rfl;refine⟨rfl,?_⟩;refine Bb (h:=e_ (?_));refine A9 rfl (fun hb1=>?_) (fun hb1=>?_)
 ·have hc1:=bp hb1;have hl:0<FP f a:=by omega
  refine A4 (A7 (?_));refine Au (r:= .tup []) none (h4:=(by simp[BH,BD,B6,Bf,Bg,AD])) (h5:=(AX _)) (h6:=⟨rfl,rfl, .inl ⟨hl,rfl⟩⟩)
 have hc1:=bp hb1;have hl:FP f a=0:=by omega
 refine AE (w_ (a_ (h:=e_ (w_ (f_ (h:=?_))))));refine A6 rfl (BY rfl rfl rfl ?_);refine f_ (h:=l_ (h:=?_));refine A6 rfl (DJ (m:=q) rfl rfl ha hql ?_);refine f_ (h:=?_);refine A6 rfl (BY rfl rfl hD0 ?_);refine a_ (h:=e_ (q_ (w_ (a_ (h:=e_ (Af (?_)))))));refine BW (fun m t=>∃(j:Nat) (acc:List Nod),j≤d.nodes.length∧m=d.nodes.length - j∧CU a.2 (d.nodes.take j)=acc∧acc.length≤j∧((acc=[]∧t=⟨look [(2, .bp 2 0),(3, .bp 3 0),(4, .v (.slice none 0 0)),(5, .bs 1 0 8 d.nodes.length cap1),(6, .v (.int .i64 (j:Int)))],⟨[DB f q d 1 cap cap1,NB d.nodes cap1,[.bs 0 0 2 f.length cap],AD a],[]⟩⟩)∨(∃cap2,acc.length≤cap2∧t=⟨look [(2, .bp 2 0),(3, .bp 3 0),(4, .bs 4 0 8 acc.length cap2),(5, .bs 1 0 8 d.nodes.length cap1),(6, .v (.int .i64 (j:Int)))],⟨[DB f q d 1 cap cap1,NB d.nodes cap1,[.bs 0 0 2 f.length cap],AD a,NB acc cap2],[]⟩⟩))) (d.nodes.length) (C0 4 0 (by simp[BH,BD,B6,Bf,Bg,AD,Ak])) (⟨0,[],BU _,rfl,rfl,At _, .inl ⟨rfl,rfl⟩⟩) ?_;rintro m t ⟨j,acc,hj,rfl,hacc,hal,⟨rfl,rfl⟩|⟨cap2,hcp,rfl⟩⟩
 ·skip
  refine q_ (w_ (m_ (h:=m_ (h:=?_))));refine A6 rfl (R7 rfl ?_);refine B1 (h:=e_ (?_));refine A9 rfl (fun hb2=>?_) (fun hb2=>?_)
  ·have hc2:=bp hb2;have hlt:j<d.nodes.length:=by omega
   obtain⟨n,hy⟩:∃n,d.nodes[j]?=some n:=⟨_,BR hlt⟩;have hk:=SU hy a.2;refine AE (q_ (Af (q_ (D7 8 (h:=Ap 0 (h:=Ap 1 (h:=?_)))))));refine EP (i:=2) rfl (DJ (m:=j) rfl rfl rfl hlt ⟨rfl,rfl⟩) ?_;refine Ay 3 (h:=?_);refine EP (i:=4) rfl (BY rfl rfl (SC hy rfl) ⟨rfl,rfl⟩) ?_;refine Ay 5 (h:=AY 6 (h:=OM 7 (h:=z_ (h:=t_ (?_)))));refine A9 rfl (fun hb3=>?_) (fun hb3=>?_)
   ·have hc3:=bp hb3;rw[if_neg hc3]at hk;refine AW (m_ (h:=m_ (h:=m_ (h:=?_))));refine A6 rfl (DJ (m:=j) rfl rfl rfl hlt ?_);refine A6 rfl (Dr rfl rfl (by rw[Kw hcap1];omega) (GZ hy) ?_);refine Bo (h:=?_);refine A6 rfl (VZ rfl rfl Mr (by omega) (by omega) ?_);rintro cap2 k bx2 hcp hs;rw[show CS (.agg (Ak n))++List.replicate ((cap2 - 1) * 8) AV.any=NB [n] cap2 from Xd n cap2]at hs;obtain⟨rfl,rfl⟩:k=4∧bx2=[_,_,_,_,_]:=hs.eq;refine a_ (h:=AQ (Al (t_ (AW (m_ (h:=BE (h:=a_ (h:=AQ (?_)))))))));refine AK ?_
    first|exact⟨d.nodes.length - (j+1),_,by omega,⟨j+1,[n],by omega,rfl,(by rw[hk,hacc];rfl),by simp, .inr ⟨cap2,hcp,rfl⟩⟩,Az 5 0 rfl rfl rfl (by simp[BH,BD,B6,Bf,Bg,AD,Ak]) ((by repeat (first|exact Sub.nil|refine B0 rfl rfl ?_|refine B3 ?_|refine B4 rfl ?_|refine B5 rfl ?_)))⟩|exact⟨d.nodes.length - (j+1),_,by omega,⟨j+1,[],by omega,rfl,(by rw[hk,hacc]),by simp, .inl ⟨rfl,rfl⟩⟩,Az 4 0 rfl rfl rfl (by simp[BH,BD,B6,Bf,Bg,AD,Ak]) ((by repeat (first|exact Sub.nil|refine B0 rfl rfl ?_|refine B3 ?_|refine B4 rfl ?_|refine B5 rfl ?_)))⟩
   have hc3:=bp hb3;rw[if_pos hc3,List.append_nil]at hk;refine Aw (Al (t_ (AW (m_ (h:=BE (h:=a_ (h:=AQ (?_))))))));refine AK ?_
   first|exact⟨d.nodes.length - (j+1),_,by omega,⟨j+1,[n],by omega,rfl,(by rw[hk,hacc];rfl),by simp, .inr ⟨cap2,hcp,rfl⟩⟩,Az 5 0 rfl rfl rfl (by simp[BH,BD,B6,Bf,Bg,AD,Ak]) ((by repeat (first|exact Sub.nil|refine B0 rfl rfl ?_|refine B3 ?_|refine B4 rfl ?_|refine B5 rfl ?_)))⟩|exact⟨d.nodes.length - (j+1),_,by omega,⟨j+1,[],by omega,rfl,(by rw[hk,hacc]),by simp, .inl ⟨rfl,rfl⟩⟩,Az 4 0 rfl rfl rfl (by simp[BH,BD,B6,Bf,Bg,AD,Ak]) ((by repeat (first|exact Sub.nil|refine B0 rfl rfl ?_|refine B3 ?_|refine B4 rfl ?_|refine B5 rfl ?_)))⟩
  have hc2:=bp hb2;exfalso;obtain rfl:j=d.nodes.length:=by omega
  rw[List.take_length]at hacc;rw[hacc]at hne;exact absurd hne (by simp)
 skip
 refine q_ (w_ (m_ (h:=m_ (h:=?_))));refine A6 rfl (R7 rfl ?_);refine B1 (h:=e_ (?_));refine A9 rfl (fun hb4=>?_) (fun hb4=>?_)
 ·have hc4:=bp hb4;have hlt:j<d.nodes.length:=by omega
  obtain⟨n,hy⟩:∃n,d.nodes[j]?=some n:=⟨_,BR hlt⟩;have hk:=SU hy a.2;refine AE (q_ (Af (q_ (D7 8 (h:=Ap 0 (h:=Ap 1 (h:=?_)))))));refine EP (i:=2) rfl (DJ (m:=j) rfl rfl rfl hlt ⟨rfl,rfl⟩) ?_;refine Ay 3 (h:=?_);refine EP (i:=4) rfl (BY rfl rfl (SC hy rfl) ⟨rfl,rfl⟩) ?_;refine Ay 5 (h:=AY 6 (h:=OM 7 (h:=z_ (h:=t_ (?_)))));refine A9 rfl (fun hb5=>?_) (fun hb5=>?_)
  ·have hc5:=bp hb5;rw[if_neg hc5]at hk;refine AW (m_ (h:=m_ (h:=m_ (h:=?_))));refine A6 rfl (DJ (m:=j) rfl rfl rfl hlt ?_);refine A6 rfl (Dr rfl rfl (by rw[Kw hcap1];omega) (GZ hy) ?_);refine Bo (h:=?_);refine A6 rfl (OC rfl rfl rfl (by rw[Kw hcp];omega) Mr (by omega) (by omega) ?_ ?_)
   ·rintro hg row2 bx2 hs hb;obtain rfl:=ST hs hg;obtain rfl:bx2=[_,_,_,_,_]:=hb.one.2;refine a_ (h:=AQ (Al (t_ (AW (m_ (h:=BE (h:=a_ (h:=AQ (?_)))))))));refine AK ?_
    first|exact⟨d.nodes.length - (j+1),_,by omega,⟨j+1,acc++[n],by omega,rfl,(by rw[hk,hacc]),by simp;omega, .inr ⟨cap2,by simpa using hg,by rw[List.length_append];rfl⟩⟩,Az 5 0 rfl rfl rfl (by simp[BH,BD,B6,Bf,Bg,AD,Ak]) ((by repeat (first|exact Sub.nil|refine B0 rfl rfl ?_|refine B3 ?_|refine B4 rfl ?_|refine B5 rfl ?_)))⟩|exact⟨d.nodes.length - (j+1),_,by omega,⟨j+1,acc++[n],by omega,rfl,(by rw[hk,hacc]),by simp;omega, .inr ⟨cap3,by simpa using hcp3,by rw[List.length_append];rfl⟩⟩,Gr [0,1,2,3,5] P6 (by decide) (.cons _ _ _ _ _ rfl (HG (by rfl) _ _ _ _ _) (.cons _ _ _ _ _ rfl (Ff _ _ _) (.cons _ _ _ _ _ rfl rfl (.cons _ _ _ _ _ rfl rfl (.cons _ _ _ _ _ rfl (Ff _ _ _) .nil))))) (by repeat (first|exact SubK.nil|refine SubK.cons _ _ _ _ rfl (AX _) ?_))⟩|exact⟨d.nodes.length - (j+1),_,by omega,⟨j+1,acc,by omega,rfl,(by rw[hk,hacc]),by omega, .inr ⟨cap2,hcp,rfl⟩⟩,Az 5 0 rfl rfl rfl (by simp[BH,BD,B6,Bf,Bg,AD,Ak]) ((by repeat (first|exact Sub.nil|refine B0 rfl rfl ?_|refine B3 ?_|refine B4 rfl ?_|refine B5 rfl ?_)))⟩
   rintro hg cap3 k bx2 hcp3 hs;rw[show((NB acc cap2).drop 0).take (acc.length * 8)++CS (.agg (Ak n))++List.replicate ((cap3 - (acc.length+1)) * 8) AV.any=NB (acc++[n]) cap3 from SS acc n cap2 cap3]at hs;obtain⟨rfl,rfl⟩:k=5∧bx2=[_,_,_,_,_,_]:=hs.eq;refine a_ (h:=AQ (Al (t_ (AW (m_ (h:=BE (h:=a_ (h:=AQ (?_)))))))));refine AK ?_
   first|exact⟨d.nodes.length - (j+1),_,by omega,⟨j+1,acc++[n],by omega,rfl,(by rw[hk,hacc]),by simp;omega, .inr ⟨cap2,by simpa using hg,by rw[List.length_append];rfl⟩⟩,Az 5 0 rfl rfl rfl (by simp[BH,BD,B6,Bf,Bg,AD,Ak]) ((by repeat (first|exact Sub.nil|refine B0 rfl rfl ?_|refine B3 ?_|refine B4 rfl ?_|refine B5 rfl ?_)))⟩|exact⟨d.nodes.length - (j+1),_,by omega,⟨j+1,acc++[n],by omega,rfl,(by rw[hk,hacc]),by simp;omega, .inr ⟨cap3,by simpa using hcp3,by rw[List.length_append];rfl⟩⟩,Gr [0,1,2,3,5] P6 (by decide) (.cons _ _ _ _ _ rfl (HG (by rfl) _ _ _ _ _) (.cons _ _ _ _ _ rfl (Ff _ _ _) (.cons _ _ _ _ _ rfl rfl (.cons _ _ _ _ _ rfl rfl (.cons _ _ _ _ _ rfl (Ff _ _ _) .nil))))) (by repeat (first|exact SubK.nil|refine SubK.cons _ _ _ _ rfl (AX _) ?_))⟩|exact⟨d.nodes.length - (j+1),_,by omega,⟨j+1,acc,by omega,rfl,(by rw[hk,hacc]),by omega, .inr ⟨cap2,hcp,rfl⟩⟩,Az 5 0 rfl rfl rfl (by simp[BH,BD,B6,Bf,Bg,AD,Ak]) ((by repeat (first|exact Sub.nil|refine B0 rfl rfl ?_|refine B3 ?_|refine B4 rfl ?_|refine B5 rfl ?_)))⟩
  have hc5:=bp hb5;rw[if_pos hc5,List.append_nil]at hk;refine Aw (Al (t_ (AW (m_ (h:=BE (h:=a_ (h:=AQ (?_))))))));refine AK ?_
  first|exact⟨d.nodes.length - (j+1),_,by omega,⟨j+1,acc++[n],by omega,rfl,(by rw[hk,hacc]),by simp;omega, .inr ⟨cap2,by simpa using hg,by rw[List.length_append];rfl⟩⟩,Az 5 0 rfl rfl rfl (by simp[BH,BD,B6,Bf,Bg,AD,Ak]) ((by repeat (first|exact Sub.nil|refine B0 rfl rfl ?_|refine B3 ?_|refine B4 rfl ?_|refine B5 rfl ?_)))⟩|exact⟨d.nodes.length - (j+1),_,by omega,⟨j+1,acc++[n],by omega,rfl,(by rw[hk,hacc]),by simp;omega, .inr ⟨cap3,by simpa using hcp3,by rw[List.length_append];rfl⟩⟩,Gr [0,1,2,3,5] P6 (by decide) (.cons _ _ _ _ _ rfl (HG (by rfl) _ _ _ _ _) (.cons _ _ _ _ _ rfl (Ff _ _ _) (.cons _ _ _ _ _ rfl rfl (.cons _ _ _ _ _ rfl rfl (.cons _ _ _ _ _ rfl (Ff _ _ _) .nil))))) (by repeat (first|exact SubK.nil|refine SubK.cons _ _ _ _ rfl (AX _) ?_))⟩|exact⟨d.nodes.length - (j+1),_,by omega,⟨j+1,acc,by omega,rfl,(by rw[hk,hacc]),by omega, .inr ⟨cap2,hcp,rfl⟩⟩,Az 5 0 rfl rfl rfl (by simp[BH,BD,B6,Bf,Bg,AD,Ak]) ((by repeat (first|exact Sub.nil|refine B0 rfl rfl ?_|refine B3 ?_|refine B4 rfl ?_|refine B5 rfl ?_)))⟩
 have hc4:=bp hb4;obtain rfl:j=d.nodes.length:=by omega
 rw[List.take_length]at hacc;refine BL (Ai (Ai (BM (t_ (AW (f_ (h:=?_)))))));refine A6 rfl (BY rfl rfl rfl ?_);refine f_ (h:=l_ (h:=m_ (h:=?_)));refine A6 rfl (DJ (m:=q) rfl rfl ha hql ?_);refine f_ (h:=?_);refine MC (Bd rfl rfl rfl rfl rfl rfl (hset _ _) (by repeat constructor) ?_);refine AQ (?_);refine OJ (r:= .tup []) none (h4:=(by simp[BH,BD,B6,Bf,Bg,AD])) (h5:=(AX _)) (h6:=⟨rfl,rfl, .inr ⟨hl,cap2,by rw[hacc];exact hcp,by rw[hacc];rfl⟩⟩)
end
end Go.Proofs.YtbgnigjfkbmceaaGreatDoor
namespace Go.Proofs.YtbgnigjfkbmceaaGreatDoor
theorem SV:∀x:List UInt8,Op.bytesLess x x=false
 |[]=>rfl
 |a::x=>by simp[Op.bytesLess,SV x]
theorem SW:∀x y z:List UInt8,Op.bytesLess x y=true→Op.bytesLess y z=true→Op.bytesLess x z=true
 |_,[],_,h,_=>by cases ‹List UInt8›<;>simp[Op.bytesLess]at h
 |_,_::_,[],_,h=>by simp[Op.bytesLess]at h
 |[],_::_,_::_,_,_=>rfl
 |a::x,b::y,c::z,h,k=>by
   simp only[Op.bytesLess,Bool.or_eq_true,Bool.and_eq_true,decide_eq_true_iff,beq_iff_eq]at h k ⊢;rcases h with h|⟨rfl,h⟩
   ·rcases k with k|⟨rfl,k⟩
    ·exact .inl (UInt8.lt_trans h k)
    exact .inl h
   rcases k with k|⟨rfl,k⟩
   ·exact .inl k
   exact .inr ⟨rfl,SW x y z h k⟩
theorem SX:∀x y:List UInt8,Op.bytesLess x y=false→x≠y→Op.bytesLess y x=true
 |[],[],_,h=>absurd rfl h
 |[],_::_,h,_=>by simp[Op.bytesLess]at h
 |_::_,[],_,_=>rfl
 |a::x,b::y,h,k=>by
   simp only[Op.bytesLess,Bool.or_eq_false_iff,decide_eq_false_iff_not,Bool.and_eq_false_iff,beq_eq_false_iff_ne]at h;simp only[Op.bytesLess,Bool.or_eq_true,Bool.and_eq_true,decide_eq_true_iff,beq_iff_eq];by_cases e:a=b
   ·subst e;right;refine⟨rfl,SX x y ?_ (fun e=>k (by rw[e]))⟩;rcases h.2 with h|h
    ·exact absurd rfl h
    exact h
   left;have h1:¬a.toNat<b.toNat:=h.1;have h2:a.toNat≠b.toNat:=fun e'=>e (UInt8.toNat_inj.1 e');show b.toNat<a.toNat;omega
theorem Xf(a:AG):E2 a a=false:=SV _
theorem Xg{a b c:AG}(h:E2 a b=true)(k:E2 b c=true):E2 a c=true:=SW _ _ _ h k
theorem SY{a b:AG}(h:E2 a b=false)(k:a≠b):E2 b a=true:=by
 refine SX _ _ h fun e=>k ?_;have:=Ma a b;rw[e]at this
 simpa using this
theorem L6{a b:AG}(h:E2 a b=true):a≠b:=by rintro rfl;rw[Xf]at h;cases h
def EF(es:List BF):Prop:=es.Pairwise fun a b=>E2 a.1 b.1=true
def Df(name:AG)(es:List BF):List BF:=es.filter fun e=>decide (e.1≠name)
theorem L7(name:AG)(ino:Int):∀es:List BF,Ec name ino true es=Df name es
 |[]=>rfl
 |e::r=>by
   unfold Ec;simp only[Bool.not_true,Bool.false_and,Bool.true_or];rw[L7 name ino r];unfold Df;rw[List.filter_cons];by_cases h:e.1=name<;>simp[h]
theorem G9(es:List BF)(name:AG):CL es name 0=Df name es:=L7 name 0 es
theorem P7(name:AG)(ino:Int):∀es:List BF,(Ec name ino false es).Perm ((name,ino)::Df name es)
 |[]=>by simp[Ec,Df]
 |e::r=>by
   unfold Ec;simp only[Bool.not_false,Bool.true_and,Bool.false_or]
   cases hlt:E2 e.1 name with
   |false=>
     simp only[Bool.not_false,if_true];rw[L7 name ino r];unfold Df;rw[List.filter_cons];by_cases h:e.1=name<;>simp[h]
   |true=>
     have hne:=L6 hlt;have ih:=P7 name ino r;unfold Df at ih ⊢;rw[List.filter_cons];simp only[Bool.not_true,Bool.false_eq_true,if_false,List.nil_append,hne,ne_eq,not_false_eq_true,decide_true,if_true];exact(List.Perm.cons e ih).trans (List.Perm.swap _ _ _)
theorem Gb(es:List BF)(name:AG){ino:Int}(h:ino≠0):(CL es name ino).Perm ((name,ino)::Df name es):=by
 unfold CL;rw[show(ino==0)=false by simpa using h];exact P7 name ino es
theorem P8{es:List BF}(h:EF es)(name:AG):EF (Df name es):=List.Pairwise.filter _ h
theorem SZ(name:AG)(ino:Int):∀es:List BF,EF es→EF (Ec name ino false es)
 |[],_=>by simp[Ec,EF]
 |e::r,h=>by
   obtain⟨h1,h2⟩:=List.pairwise_cons.1 h;unfold Ec;simp only[Bool.not_false,Bool.true_and,Bool.false_or]
   cases hlt:E2 e.1 name with
   |false=>
     simp only[Bool.not_false,if_true];rw[L7 name ino r]
     have hr:∀x∈Df name r,E2 name x.1=true:=fun x hx=>by
      obtain⟨hx1,_⟩:=List.mem_filter.1 hx;have h3:=h1 x hx1;by_cases he:e.1=name
      ·rw[←he];exact h3
      exact Xg (SY hlt he) h3
     by_cases he:e.1=name
     ·simp only[he,if_true,List.nil_append,List.cons_append];exact List.pairwise_cons.2 ⟨hr,P8 h2 name⟩
     simp only[he,if_false,List.cons_append,List.nil_append];refine List.pairwise_cons.2 ⟨?_,List.pairwise_cons.2 ⟨fun x hx=>h1 x (List.mem_filter.1 hx).1,P8 h2 name⟩⟩;intro x hx;rcases List.mem_cons.1 hx with rfl|hx
     ·exact SY hlt he
     exact hr x hx
   |true=>
     have hne:=L6 hlt;simp only[Bool.not_true,Bool.false_eq_true,if_false,List.nil_append,hne,List.cons_append];refine List.pairwise_cons.2 ⟨fun x hx=>?_,SZ name ino r h2⟩;have hx':=(P7 name ino r).mem_iff.1 hx;rcases List.mem_cons.1 hx' with rfl|hx'
     ·exact hlt
     exact h1 x (List.mem_filter.1 hx').1
theorem Ji{es:List BF}(h:EF es)(name:AG)(ino:Int):EF (CL es name ino):=by
 unfold CL
 cases (ino==0)with
 |true=>rw[L7];exact P8 h name
 |false=>exact SZ name ino es h
def Cs(es:List BF)(name:AG):Option BF:=es.find? fun e:BF=>decide (e.1=name)
theorem Fg{es:List BF}{name:AG}{e:BF}(h:Cs es name=some e):e∈es∧e.1=name:=by
 have h1:=List.find?_some h;exact⟨List.mem_of_find?_eq_some h,by simpa using h1⟩
theorem Ms{es:List BF}{name:AG}(h:Cs es name=none):∀e∈es,e.1≠name:=fun e he=>by
 have:=List.find?_eq_none.1 h e he
 simpa using this
theorem Mt{es:List BF}{name:AG}(h:Cs es name=none):Df name es=es:=by
 unfold Df;rw[List.filter_eq_self];intro e he
 simpa using Ms h e he
theorem Mu{es:List BF}(hs:EF es){name:AG}{e:BF}(h:Cs es name=some e):es.Perm (e::Df name es):=by
 induction es with
 |nil=>simp[Cs]at h
 |cons x r ih=>
   obtain⟨h1,h2⟩:=List.pairwise_cons.1 hs;unfold Cs at h;rw[List.find?_cons]at h;unfold Df;rw[List.filter_cons];by_cases hx:x.1=name
   ·simp only[hx,decide_true,Option.some.injEq]at h;subst h
    have:r.filter (fun e=>decide (e.1≠name))=r:=by
     rw[List.filter_eq_self];intro y hy;have:=L6 (h1 y hy);simp only[ne_eq,decide_not,Bool.not_eq_true',decide_eq_false_iff_not];rw[←hx];exact fun e=>this e.symm
    rw[this];simp[hx]
   simp only[hx,decide_false]at h;have:=ih h2 h;simp only[ne_eq,hx,not_false_eq_true,decide_true,if_true];exact(List.Perm.cons x this).trans (List.Perm.swap _ _ _)
theorem Mv{i:Int}{a b:List BF}(h:a.Perm b):CT i a=CT i b:=h.countP_eq _
theorem Mw(i:Int)(e:BF)(es:List BF):CT i (e::es)=CT i es+(if e.2=i then 1 else 0):=by
 unfold CT;rw[List.countP_cons];by_cases h:e.2=i<;>simp[h]
theorem Sa{i:Int}{es:List BF}:0<CT i es↔∃e∈es,e.2=i:=by
 unfold CT;rw[List.countP_pos_iff];simp
theorem L8{i:Int}{ns:List Nod}:0<BX i ns↔∃n∈ns,∃e∈n.entries,e.2=i:=by
 unfold BX;rw[Sa];constructor
 ·rintro⟨e,he,h⟩;obtain⟨n,hn,he⟩:=List.mem_flatMap.1 he;exact⟨n,hn,e,he,h⟩
 rintro⟨n,hn,e,he,h⟩;exact⟨e,List.mem_flatMap.2 ⟨n,hn,he⟩,h⟩
theorem P9(i:Int)(a b:List Nod):BX i (a++b)=BX i a+BX i b:=by
 unfold BX CT;rw[List.flatMap_append,List.countP_append]
theorem Jj(i:Int)(n:Nod)(b:List Nod):BX i (n::b)=CT i n.entries+BX i b:=by
 unfold BX CT;rw[List.flatMap_cons,List.countP_append]
def CN(ns:List Nod)(ino:Int)(g:Nod→Nod):List Nod:=ns.map fun n=>if n.ino=ino then g n else n
def DM(ns:List Nod):Prop:=ns.Pairwise fun a b=>a.ino<b.ino
theorem Ct{ns:List Nod}(h:DM ns){a b:Nod}(ha:a∈ns)(hb:b∈ns)(e:a.ino=b.ino):a=b:=by
 induction ns with
 |nil=>cases ha
 |cons x r ih=>
   obtain⟨h1,h2⟩:=List.pairwise_cons.1 h;rcases List.mem_cons.1 ha with rfl|ha
   ·rcases List.mem_cons.1 hb with rfl|hb
    ·rfl
    have:=h1 b hb;omega
   rcases List.mem_cons.1 hb with hb|hb
   ·subst hb;have:=h1 a (by assumption);omega
   exact ih h2 (by assumption) hb
theorem Sb{ns:List Nod}(h:DM ns){n:Nod}(hn:n∈ns):∃A B,ns=A++n::B∧(∀m∈A,m.ino≠n.ino)∧∀m∈B,m.ino≠n.ino:=by
 obtain⟨A,B,rfl⟩:=List.append_of_mem hn;obtain⟨h1,h2,h3⟩:=List.pairwise_append.1 h;obtain⟨h4,_⟩:=List.pairwise_cons.1 h2;exact⟨A,B,rfl,fun m hm=>by have:=h3 m hm n (by simp);omega,fun m hm=>by have:=h4 m hm;omega⟩
theorem Xh{A B:List Nod}{n:Nod}(hA:∀m∈A,m.ino≠n.ino)(hB:∀m∈B,m.ino≠n.ino)(g:Nod→Nod):CN (A++n::B) n.ino g=A++g n::B:=by
 unfold CN;rw[List.map_append,List.map_cons,if_pos rfl]
 congr 1
 ·rw[List.map_congr_left (g:=id) fun m hm=>by simp[hA m hm]];simp
 congr 1
 rw[List.map_congr_left (g:=id) fun m hm=>by simp[hB m hm]];simp
theorem F2{ns:List Nod}{ino:Int}{g:Nod→Nod}{m:Nod}:m∈CN ns ino g↔∃n∈ns,m=if n.ino=ino then g n else n:=by
 unfold CN;rw[List.mem_map];constructor
 ·rintro⟨n,hn,rfl⟩;exact⟨n,hn,rfl⟩
 rintro⟨n,hn,rfl⟩;exact⟨n,hn,rfl⟩
theorem Xi{ns:List Nod}{ino:Int}{g:Nod→Nod}(hg:∀n,(g n).ino=n.ino):(CN ns ino g).map (·.ino)=ns.map (·.ino):=by
 unfold CN;rw[List.map_map];apply List.map_congr_left;intro n _;simp only[Function.comp];split
 ·exact hg n
 rfl
theorem PA{ns:List Nod}:DM ns↔(ns.map (·.ino)).Pairwise (· < ·):=by
 unfold DM;rw[List.pairwise_map]
theorem Sc{ns:List Nod}(h:DM ns)(ino:Int){g:Nod→Nod}(hg:∀n,(g n).ino=n.ino):DM (CN ns ino g):=by
 rw[PA]at h ⊢;rw[Xi hg];exact h
theorem PB{ns:List Nod}(h:DM ns){n:Nod}(hn:n∈ns)(g:Nod→Nod)(i:Int):BX i (CN ns n.ino g)+CT i n.entries=BX i ns+CT i (g n).entries:=by
 obtain⟨A,B,rfl,hA,hB⟩:=Sb h hn;rw[Xh hA hB];simp only[P9,Jj];omega
end Go.Proofs.YtbgnigjfkbmceaaGreatDoor
namespace Go.Proofs.YtbgnigjfkbmceaaGreatDoor
structure VD(d:Dvc):Prop where
 len:d.nodes.length≤16
 next2:2≤d.next
 nextM:d.next≤1073741824
 root:∃r rest,d.nodes=r::rest∧r.ino=1∧r.kind=2∧r.parent=1
 asc:DM d.nodes
 lt:∀n∈d.nodes,n.ino<d.next
 plain:∀n∈d.nodes,E1 n=true
 leaf:∀n∈d.nodes,n.kind≠2→n.parent=0∧n.entries=[]
 many:∀n∈d.nodes,n.entries.length≤12
 sorted:∀n∈d.nodes,EF n.entries
 ent:∀n∈d.nodes,∀e∈n.entries,Cn e.1=true∧e.2≠1∧∃m∈d.nodes,m.ino=e.2
 link:∀n∈d.nodes,n.ino≠1→0<BX n.ino d.nodes
 one:∀n∈d.nodes,n.ino≠1→n.kind=2→BX n.ino d.nodes=1
 par:∀n∈d.nodes,n.ino≠1→n.kind=2→∃p∈d.nodes,p.ino=n.parent∧∃e∈p.entries,e.2=n.ino
 rank:∃rk:Int→Nat,∀n∈d.nodes,n.ino≠1→n.kind=2→rk n.parent<rk n.ino
theorem VD.pos{d:Dvc}(h:VD d){n:Nod}(hn:n∈d.nodes):1≤n.ino:=by
 obtain⟨r,rest,hr,h1,_⟩:=h.root;have ha:=h.asc;rw[hr]at hn ha;rcases List.mem_cons.1 hn with rfl|hn
 ·omega
 have:=(List.pairwise_cons.1 ha).1 n hn;omega
theorem VD.rootMem{d:Dvc}(h:VD d):∃r∈d.nodes,r.ino=1∧r.kind=2∧r.parent=1:=by
 obtain⟨r,rest,hr,h1,h2,h3⟩:=h.root;exact⟨r,by rw[hr];simp,h1,h2,h3⟩
theorem VD.isRoot{d:Dvc}(h:VD d){n:Nod}(hn:n∈d.nodes)(h1:n.ino=1):n.kind=2∧n.parent=1:=by
 obtain⟨r,hr,h2,h3,h4⟩:=h.rootMem;obtain rfl:=Ct h.asc hn hr (by omega);exact⟨h3,h4⟩
theorem VD.dirOf{d:Dvc}(h:VD d){n:Nod}(hn:n∈d.nodes){e:BF}(he:e∈n.entries):n.kind=2:=by
 apply Classical.byContradiction;intro hk;rw[(h.leaf n hn hk).2]at he;cases he
def L9(name:AG)(ino:Int)(n:Nod):Nod:={n with entries:=CL n.entries name ino}
def BV(ns:List Nod)(p:Int)(name:AG)(ino:Int):List Nod:=CN ns p (L9 name ino)
structure AsWas(p:Int)(name:AG)(to_:Int)(n m:Nod):Prop where
 ino:m.ino=n.ino
 kind:m.kind=n.kind
 parent:m.parent=n.parent
 plain:E1 m=E1 n
 ents:m.entries=if n.ino=p then CL n.entries name to_ else n.entries
theorem PC(p:Int)(name:AG)(ino:Int)(n:Nod):AsWas p name ino n (if n.ino=p then L9 name ino n else n):=by
 by_cases h:n.ino=p
 ·simp only[h,if_true];exact⟨h ▸ rfl,rfl,rfl,rfl,by simp[h,L9]⟩
 simp only[h,if_false];exact⟨rfl,rfl,rfl,rfl,by simp[h]⟩
theorem Ds{ns:List Nod}{p:Int}{name:AG}{ino:Int}{m:Nod}(h:m∈BV ns p name ino):∃n∈ns,AsWas p name ino n m:=by
 obtain⟨n,hn,rfl⟩:=F2.1 h;exact⟨n,hn,PC p name ino n⟩
theorem Ha{ns:List Nod}(p:Int)(name:AG)(ino:Int){n:Nod}(h:n∈ns):∃m∈BV ns p name ino,AsWas p name ino n m:=⟨_,F2.2 ⟨n,h,rfl⟩,PC p name ino n⟩
theorem Jk{ns:List Nod}(h:DM ns)(p:Int)(name:AG)(ino:Int):DM (BV ns p name ino):=Sc h p fun _=>rfl
theorem PD(ns:List Nod)(p:Int)(name:AG)(ino:Int):(BV ns p name ino).length=ns.length:=by simp[BV,CN]
theorem LA{ns:List Nod}(h:DM ns){n0:Nod}(hn:n0∈ns)(name:AG)(ino i:Int):BX i (BV ns n0.ino name ino)+CT i n0.entries=BX i ns+CT i (CL n0.entries name ino):=PB h hn (L9 name ino) i
theorem PF{ns:List Nod}(p:Int)(name:AG)(ino:Int)(h:∃r rest,ns=r::rest∧r.ino=1∧r.kind=2∧r.parent=1):∃r rest,BV ns p name ino=r::rest∧r.ino=1∧r.kind=2∧r.parent=1:=by
 obtain⟨r,rest,rfl,h1,h2,h3⟩:=h;have:=PC p name ino r;exact⟨_,_,rfl,this.ino.trans h1,this.kind.trans h2,this.parent.trans h3⟩
def b1(p:Prop)[Decidable p]:Nat:=if p then 1 else 0
theorem Sd{es:List BF}(hs:EF es){name:AG}{e:BF}(h:Cs es name=some e)(i:Int):CT i (CL es name 0)+b1 (e.2=i)=CT i es:=by
 rw[G9,Mv (Mu hs h),Mw];rfl
theorem PG{es:List BF}{name:AG}(h:Cs es name=none){ino:Int}(h0:ino≠0)(i:Int):CT i (CL es name ino)=CT i es+b1 (ino=i):=by
 rw[Mv (Gb es name h0),Mw,Mt h];rfl
theorem Xj{es:List BF}(hs:EF es){name:AG}{e:BF}(h:Cs es name=some e){ino:Int}(h0:ino≠0)(i:Int):CT i (CL es name ino)+b1 (e.2=i)=CT i es+b1 (ino=i):=by
 rw[Mv (Gb es name h0),Mv (Mu hs h),Mw,Mw];show CT i _+b1 (ino=i)+b1 (e.2=i)=CT i _+b1 (e.2=i)+b1 (ino=i);omega
theorem LC{es:List BF}{name:AG}{ino:Int}{e:BF}(h:e∈CL es name ino):e∈es∨(e=(name,ino)∧ino≠0):=by
 by_cases h0:ino=0
 ·subst h0;rw[G9]at h;exact .inl (List.mem_filter.1 h).1
 rcases List.mem_cons.1 ((Gb es name h0).mem_iff.1 h)with h|h
 ·exact .inr ⟨h,h0⟩
 exact .inl (List.mem_filter.1 h).1
theorem LD{es:List BF}{name:AG}{ino:Int}{e:BF}(h:e∈es)(hn:e.1≠name):e∈CL es name ino:=by
 have hw:e∈Df name es:=List.mem_filter.2 ⟨h,by simpa using hn⟩;by_cases h0:ino=0
 ·subst h0;rw[G9];exact hw
 exact(Gb es name h0).mem_iff.2 (List.mem_cons_of_mem _ hw)
theorem Se{es:List BF}{name:AG}{ino:Int}(h0:ino≠0):(name,ino)∈CL es name ino:=(Gb es name h0).mem_iff.2 (by simp)
theorem LE{p:Prop}[Decidable p](h:p):b1 p=1:=if_pos h
theorem JG{p:Prop}[Decidable p](h:¬p):b1 p=0:=if_neg h
theorem VD.cnt_next{d:Dvc}(h:VD d){i:Int}(hi:d.next≤i):BX i d.nodes=0:=by
 apply Classical.byContradiction;intro hc;obtain⟨n,hn,e,he,rfl⟩:=L8.1 (Nat.pos_of_ne_zero hc);obtain⟨m,hm,e2⟩:=(h.ent n hn e he).2.2;have:=h.lt m hm;omega
theorem VD.make{d:Dvc}(h:VD d){n0:Nod}(hn0:n0∈d.nodes)(hk:n0.kind=2){name:AG}(hname:Cn name=true)(hnew:Cs n0.entries name=none){n:Nod}(hp:E1 n=true)(hlen:d.nodes.length<16)(hnx:d.next<1073741824)(hfull:n0.entries.length<12):
    VD ⟨d.next+1,BV d.nodes n0.ino name d.next++[Dk n d.next n0.ino]⟩:=by
 have hnext0:d.next≠0:=by have:=h.next2;omega
 have hcnt:∀i,BX i (BV d.nodes n0.ino name d.next++[Dk n d.next n0.ino])=BX i d.nodes+b1 (d.next=i):=by
  intro i;have h1:=LA h.asc hn0 name d.next i;rw[PG hnew hnext0]at h1;rw[P9,Jj];have h2:CT i (Dk n d.next n0.ino).entries=0:=rfl;have h3:BX i []=0:=rfl;omega
 have hmem:∀m,m∈BV d.nodes n0.ino name d.next++[Dk n d.next n0.ino]→(∃n'∈d.nodes,AsWas n0.ino name d.next n' m)∨m=Dk n d.next n0.ino:=by
  intro m hm;rcases List.mem_append.1 hm with hm|hm
  ·exact .inl (Ds hm)
  exact .inr (by simpa using hm)
 have hto:∀n'∈d.nodes,∃m∈BV d.nodes n0.ino name d.next++[Dk n d.next n0.ino],AsWas n0.ino name d.next n' m:=fun n' hn'=>by
  obtain⟨m,hm,hw⟩:=Ha n0.ino name d.next hn';exact⟨m,List.mem_append_left _ hm,hw⟩
 have hold:∀{n' m:Nod} {e:BF},AsWas n0.ino name d.next n' m→n'∈d.nodes→e∈n'.entries→e∈m.entries:=by
  intro n' m e hw hn' he;rw[hw.ents];split
  ·rename_i heq;obtain rfl:=Ct h.asc hn' hn0 heq;exact LD he (Ms hnew e he)
  exact he
 refine⟨?_,?_,?_,?_,?_,?_,?_,?_,?_,?_,?_,?_,?_,?_,?_⟩
 ·show(BV d.nodes n0.ino name d.next++[Dk n d.next n0.ino]).length≤16;rw[List.length_append,PD];simp;omega
 ·show 2≤d.next+1;have:=h.next2;omega
 ·show d.next+1≤1073741824;omega
 ·obtain⟨r,rest,hr,h1⟩:=PF n0.ino name d.next h.root;exact⟨r,rest++[Dk n d.next n0.ino],by show _++_=_;rw[hr];rfl,h1⟩
 ·refine List.pairwise_append.2 ⟨Jk h.asc _ _ _,by simp,fun a ha b hb=>?_⟩;obtain⟨n',hn',hw⟩:=Ds ha;simp at hb;subst hb;have:=h.lt n' hn';rw[hw.ino];exact this
 ·intro m hm;show m.ino<d.next+1;rcases hmem m hm with⟨n',hn',hw⟩|rfl
  ·have:=h.lt n' hn';rw[hw.ino];omega
  show d.next<d.next+1;omega
 ·intro m hm;rcases hmem m hm with⟨n',hn',hw⟩|rfl
  ·rw[hw.plain];exact h.plain n' hn'
  exact hp
 ·intro m hm hk';rcases hmem m hm with⟨n',hn',hw⟩|rfl
  ·rw[hw.kind]at hk';obtain⟨h1,h2⟩:=h.leaf n' hn' hk';refine⟨hw.parent.trans h1,?_⟩;rw[hw.ents,if_neg,h2];intro e;obtain rfl:=Ct h.asc hn' hn0 e;exact hk' hk
  exact⟨if_neg hk',rfl⟩
 ·intro m hm;rcases hmem m hm with⟨n',hn',hw⟩|rfl
  ·rw[hw.ents];split
   ·rename_i heq;obtain rfl:=Ct h.asc hn' hn0 heq;rw[(Gb _ name hnext0).length_eq,List.length_cons,Mt hnew];omega
   exact h.many n' hn'
  exact BU _
 ·intro m hm;rcases hmem m hm with⟨n',hn',hw⟩|rfl
  ·rw[hw.ents];split
   ·exact Ji (h.sorted n' hn') _ _
   exact h.sorted n' hn'
  exact List.Pairwise.nil
 ·intro m hm e he;rcases hmem m hm with⟨n',hn',hw⟩|rfl
  ·have key:(e∈n'.entries)∨e=(name,d.next):=by
      rw[hw.ents]at he;split at he
      ·rcases LC he with h1|h1
       ·exact .inl h1
       exact .inr h1.1
      exact .inl he
   rcases key with h1|rfl
   ·obtain⟨k1,k2,q,hq,k3⟩:=h.ent n' hn' e h1;obtain⟨m',hm',hw'⟩:=hto q hq;exact⟨k1,k2,m',hm',hw'.ino.trans k3⟩
   exact⟨hname,by show d.next≠1;have:=h.next2;omega,Dk n d.next n0.ino,by simp,rfl⟩
  cases he
 ·intro m hm h1;rw[hcnt];rcases hmem m hm with⟨n',hn',hw⟩|rfl
  ·have:=h.link n' hn' (by rw[←hw.ino];exact h1);rw[hw.ino];omega
  have:b1 (d.next=(Dk n d.next n0.ino).ino)=1:=LE rfl;omega
 ·intro m hm h1 h2;rw[hcnt];rcases hmem m hm with⟨n',hn',hw⟩|rfl
  ·have:=h.one n' hn' (by rw[←hw.ino];exact h1) (by rw[←hw.kind];exact h2);rw[hw.ino,this,JG (by have:=h.lt n' hn';omega)]
  have e1:b1 (d.next=(Dk n d.next n0.ino).ino)=1:=LE rfl;have e2:BX (Dk n d.next n0.ino).ino d.nodes=0:=h.cnt_next (Int.le_refl _);omega
 ·intro m hm h1 h2;rcases hmem m hm with⟨n',hn',hw⟩|rfl
  ·obtain⟨p,hp',k1,e,he,k2⟩:=h.par n' hn' (by rw[←hw.ino];exact h1) (by rw[←hw.kind];exact h2);obtain⟨q,hq,hwq⟩:=hto p hp';exact⟨q,hq,by rw[hwq.ino,hw.parent];exact k1,e,hold hwq hp' he,by rw[hw.ino];exact k2⟩
  obtain⟨q,hq,hwq⟩:=hto n0 hn0;refine⟨q,hq,?_,(name,d.next),?_,rfl⟩
  ·rw[hwq.ino];exact(if_pos h2).symm
  rw[hwq.ents,if_pos rfl];exact Se hnext0
 obtain⟨rk,hrk⟩:=h.rank;refine⟨fun i=>if i=d.next then rk n0.ino+1 else rk i,?_⟩;intro m hm h1 h2;rcases hmem m hm with⟨n',hn',hw⟩|rfl
 ·have hlt:=h.lt n' hn';have h1':n'.ino≠1:=by rw[←hw.ino];exact h1
  have h2':n'.kind=2:=by rw[←hw.kind];exact h2
  obtain⟨p,hp',k1,_⟩:=h.par n' hn' h1' h2';have hlp:=h.lt p hp';simp only;rw[hw.ino,hw.parent,if_neg (by omega),if_neg (by omega)];exact hrk n' hn' h1' h2'
 have e1:(Dk n d.next n0.ino).parent=n0.ino:=if_pos h2;have e2:(Dk n d.next n0.ino).ino=d.next:=rfl;have hl:=h.lt n0 hn0;simp only;rw[e1,e2,if_pos rfl,if_neg (by omega)];omega
theorem VD.linked{d:Dvc}(h:VD d){n0 a:Nod}(hn0:n0∈d.nodes)(hk:n0.kind=2)(ha:a∈d.nodes)(hka:a.kind≠2){name:AG}(hname:Cn name=true)(hnew:Cs n0.entries name=none)(hfull:n0.entries.length<12):
    VD ⟨d.next,BV d.nodes n0.ino name a.ino⟩:=by
 have ha0:a.ino≠0:=by have:=h.pos ha;omega
 have ha1:a.ino≠1:=fun e=>hka (h.isRoot ha e).1
 have hcnt:∀i,BX i (BV d.nodes n0.ino name a.ino)=BX i d.nodes+b1 (a.ino=i):=by
  intro i;have h1:=LA h.asc hn0 name a.ino i;rw[PG hnew ha0]at h1;omega
 have hto:=fun n' (hn':n'∈d.nodes)=>Ha n0.ino name a.ino hn'
 have hold:∀{n' m:Nod} {e:BF},AsWas n0.ino name a.ino n' m→n'∈d.nodes→e∈n'.entries→e∈m.entries:=by
  intro n' m e hw hn' he;rw[hw.ents];split
  ·rename_i heq;obtain rfl:=Ct h.asc hn' hn0 heq;exact LD he (Ms hnew e he)
  exact he
 refine⟨by rw[PD];exact h.len,h.next2,h.nextM,PF _ _ _ h.root,Jk h.asc _ _ _,?_,?_,?_,?_,?_,?_,?_,?_,?_,?_⟩
 ·intro m hm;obtain⟨n',hn',hw⟩:=Ds hm;rw[hw.ino];exact h.lt n' hn'
 ·intro m hm;obtain⟨n',hn',hw⟩:=Ds hm;rw[hw.plain];exact h.plain n' hn'
 ·intro m hm hk';obtain⟨n',hn',hw⟩:=Ds hm;rw[hw.kind]at hk';obtain⟨h1,h2⟩:=h.leaf n' hn' hk';refine⟨hw.parent.trans h1,?_⟩;rw[hw.ents,if_neg,h2];intro e;obtain rfl:=Ct h.asc hn' hn0 e;exact hk' hk
 ·intro m hm;obtain⟨n',hn',hw⟩:=Ds hm;rw[hw.ents];split
  ·rename_i heq;obtain rfl:=Ct h.asc hn' hn0 heq;rw[(Gb _ name ha0).length_eq,List.length_cons,Mt hnew];omega
  exact h.many n' hn'
 ·intro m hm;obtain⟨n',hn',hw⟩:=Ds hm;rw[hw.ents];split
  ·exact Ji (h.sorted n' hn') _ _
  exact h.sorted n' hn'
 ·intro m hm e he;obtain⟨n',hn',hw⟩:=Ds hm
  have key:(e∈n'.entries)∨e=(name,a.ino):=by
   rw[hw.ents]at he;split at he
   ·rcases LC he with h1|h1
    ·exact .inl h1
    exact .inr h1.1
   exact .inl he
  rcases key with h1|rfl
  ·obtain⟨k1,k2,q,hq,k3⟩:=h.ent n' hn' e h1;obtain⟨m',hm',hw'⟩:=hto q hq;exact⟨k1,k2,m',hm',hw'.ino.trans k3⟩
  obtain⟨m',hm',hw'⟩:=hto a ha;exact⟨hname,ha1,m',hm',hw'.ino⟩
 ·intro m hm h1;obtain⟨n',hn',hw⟩:=Ds hm;rw[hcnt,hw.ino];have:=h.link n' hn' (by rw[←hw.ino];exact h1);omega
 ·intro m hm h1 h2;obtain⟨n',hn',hw⟩:=Ds hm;rw[hcnt,hw.ino,h.one n' hn' (by rw[←hw.ino];exact h1) (by rw[←hw.kind];exact h2),JG];intro e;obtain rfl:=Ct h.asc hn' ha e.symm;exact hka (by rw[←hw.kind];exact h2)
 ·intro m hm h1 h2;obtain⟨n',hn',hw⟩:=Ds hm;obtain⟨p,hp',k1,e,he,k2⟩:=h.par n' hn' (by rw[←hw.ino];exact h1) (by rw[←hw.kind];exact h2);obtain⟨q,hq,hwq⟩:=hto p hp';exact⟨q,hq,by rw[hwq.ino,hw.parent];exact k1,e,hold hwq hp' he,by rw[hw.ino];exact k2⟩
 obtain⟨rk,hrk⟩:=h.rank;refine⟨rk,fun m hm h1 h2=>?_⟩;obtain⟨n',hn',hw⟩:=Ds hm;rw[hw.ino,hw.parent];exact hrk n' hn' (by rw[←hw.ino];exact h1) (by rw[←hw.kind];exact h2)
def Dt(mode uid gid:Int)(n:Nod):Nod:={n with mode:=mode,uid:=uid,gid:=gid}
theorem VD.attrs{d:Dvc}(h:VD d){n0:Nod}(hn0:n0∈d.nodes)(mode uid gid:Int)(hp:E1 (Dt mode uid gid n0)=true):VD ⟨d.next,CN d.nodes n0.ino (Dt mode uid gid)⟩:=by
 have hsame:∀n:Nod,(if n.ino=n0.ino then Dt mode uid gid n else n).ino=n.ino∧(if n.ino=n0.ino then Dt mode uid gid n else n).kind=n.kind∧(if n.ino=n0.ino then Dt mode uid gid n else n).parent=n.parent∧(if n.ino=n0.ino then Dt mode uid gid n else n).entries=n.entries:=by
  intro n;split<;>exact⟨rfl,rfl,rfl,rfl⟩
 have hcnt:∀i,BX i (CN d.nodes n0.ino (Dt mode uid gid))=BX i d.nodes:=by
  intro i;have h1:BX i (CN d.nodes n0.ino (Dt mode uid gid))+CT i n0.entries=BX i d.nodes+CT i n0.entries:=PB h.asc hn0 (Dt mode uid gid) i;omega
 have hto:∀n∈d.nodes,∃m∈CN d.nodes n0.ino (Dt mode uid gid),m.ino=n.ino∧m.kind=n.kind∧m.parent=n.parent∧m.entries=n.entries:=fun n hn=>⟨_,F2.2 ⟨n,hn,rfl⟩,hsame n⟩;refine⟨by simpa[CN]using h.len,h.next2,h.nextM,?_,Sc h.asc _ (fun _=>rfl),?_,?_,?_,?_,?_,?_,?_,?_,?_,?_⟩
 ·obtain⟨r,rest,hr,h1,h2,h3⟩:=h.root;obtain⟨s1,s2,s3,_⟩:=hsame r;refine⟨_,_,by show CN d.nodes _ _=_;rw[hr];rfl,s1.trans h1,s2.trans h2,s3.trans h3⟩
 ·intro m hm;obtain⟨n,hn,rfl⟩:=F2.1 hm;rw[(hsame n).1];exact h.lt n hn
 ·intro m hm;obtain⟨n,hn,rfl⟩:=F2.1 hm;split
  ·rename_i e;obtain rfl:=Ct h.asc hn hn0 e;exact hp
  exact h.plain n hn
 ·intro m hm hk;obtain⟨n,hn,rfl⟩:=F2.1 hm;obtain⟨s1,s2,s3,s4⟩:=hsame n;rw[s2]at hk;rw[s3,s4];exact h.leaf n hn hk
 ·intro m hm;obtain⟨n,hn,rfl⟩:=F2.1 hm;rw[(hsame n).2.2.2];exact h.many n hn
 ·intro m hm;obtain⟨n,hn,rfl⟩:=F2.1 hm;rw[(hsame n).2.2.2];exact h.sorted n hn
 ·intro m hm e he;obtain⟨n,hn,rfl⟩:=F2.1 hm;rw[(hsame n).2.2.2]at he;obtain⟨k1,k2,q,hq,k3⟩:=h.ent n hn e he;obtain⟨m',hm',s1,_⟩:=hto q hq;exact⟨k1,k2,m',hm',s1.trans k3⟩
 ·intro m hm h1;obtain⟨n,hn,rfl⟩:=F2.1 hm;rw[(hsame n).1]at h1 ⊢;rw[hcnt];exact h.link n hn h1
 ·intro m hm h1 h2;obtain⟨n,hn,rfl⟩:=F2.1 hm;rw[(hsame n).1]at h1 ⊢;rw[(hsame n).2.1]at h2;rw[hcnt];exact h.one n hn h1 h2
 ·intro m hm h1 h2;obtain⟨n,hn,rfl⟩:=F2.1 hm;obtain⟨s1,s2,s3,s4⟩:=hsame n;rw[s1]at h1 ⊢;rw[s2]at h2;rw[s3];obtain⟨p,hp',k1,e,he,k2⟩:=h.par n hn h1 h2;obtain⟨q,hq,t1,_,_,t4⟩:=hto p hp';exact⟨q,hq,t1.trans k1,e,by rw[t4];exact he,k2⟩
 obtain⟨rk,hrk⟩:=h.rank;refine⟨rk,fun m hm h1 h2=>?_⟩;obtain⟨n,hn,rfl⟩:=F2.1 hm;obtain⟨s1,s2,s3,s4⟩:=hsame n;rw[s1]at h1 ⊢;rw[s2]at h2;rw[s3];exact hrk n hn h1 h2
end Go.Proofs.YtbgnigjfkbmceaaGreatDoor
namespace Go.Proofs.YtbgnigjfkbmceaaGreatDoor
def Br(ns:List Nod)(i:Int):List Nod:=ns.filter fun m=>decide (m.ino≠i∨0<BX i ns)
theorem LF{ns:List Nod}{i:Int}{m:Nod}:m∈Br ns i↔m∈ns∧(m.ino≠i∨0<BX i ns):=by
 unfold Br;rw[List.mem_filter,decide_eq_true_iff]
theorem Sf{ns:List Nod}{p:Nod→Bool}(h:∀m∈ns,p m=false→m.entries=[])(i:Int):BX i (ns.filter p)=BX i ns:=by
 induction ns with
 |nil=>rfl
 |cons x r ih=>
   rw[List.filter_cons];have ih':=ih fun m hm=>h m (by simp[hm])
   cases hp:p x with
   |true=>simp only[if_true];rw[Jj,Jj,ih']
   |false=>
     simp only[Bool.false_eq_true,if_false];rw[Jj,h x (by simp) hp,ih'];simp[CT]
theorem PH{es:List BF}(hs:EF es){a b:BF}(ha:a∈es)(hb:b∈es)(e:a.1=b.1):a=b:=by
 induction es with
 |nil=>cases ha
 |cons x r ih=>
   obtain⟨h1,h2⟩:=List.pairwise_cons.1 hs;rcases List.mem_cons.1 ha with rfl|ha
   ·rcases List.mem_cons.1 hb with rfl|hb
    ·rfl
    exact absurd e (L6 (h1 b hb))
   rcases List.mem_cons.1 hb with hb|hb
   ·subst hb;exact absurd e.symm (L6 (h1 a (by assumption)))
   exact ih h2 (by assumption) hb
theorem VD.removed{d:Dvc}(h:VD d){n0 a:Nod}(hn0:n0∈d.nodes)(ha:a∈d.nodes)(hae:a.entries=[]){name:AG}{e0:BF}(he0:Cs n0.entries name=some e0)(hea:e0.2=a.ino):
    VD ⟨d.next,Br (BV d.nodes n0.ino name 0) a.ino⟩:=by
 obtain⟨hem,hen⟩:=Fg he0;have ha1:a.ino≠1:=by rw[←hea];exact(h.ent n0 hn0 e0 hem).2.1
 have hk:n0.kind=2:=h.dirOf hn0 hem
 have hna:n0.ino≠a.ino:=fun e=>by
  obtain rfl:=Ct h.asc hn0 ha e;rw[hae]at hem;cases hem
 have hcnt1:∀i,BX i (BV d.nodes n0.ino name 0)+b1 (a.ino=i)=BX i d.nodes:=by
  intro i;have h1:=LA h.asc hn0 name 0 i;have h2:=Sd (h.sorted n0 hn0) he0 i;rw[hea]at h2;omega
 have hcnt:∀i,BX i (Br (BV d.nodes n0.ino name 0) a.ino)=BX i (BV d.nodes n0.ino name 0):=by
  refine fun i=>Sf (fun m hm hp=>?_) i;have hp':=of_decide_eq_false hp;obtain⟨n',hn',hw⟩:=Ds hm;have hmi:m.ino=a.ino:=Classical.byContradiction fun h=>hp' (.inl h);obtain rfl:=Ct h.asc hn' ha (hw.ino.symm.trans hmi);rw[hw.ents,if_neg (fun e=>hna e.symm),hae]
 have hkeep:∀{m:Nod},m∈BV d.nodes n0.ino name 0→(m.ino=a.ino→0<BX a.ino (BV d.nodes n0.ino name 0))→m∈Br (BV d.nodes n0.ino name 0) a.ino:=by
  intro m hm hc;refine LF.2 ⟨hm,?_⟩;by_cases e:m.ino=a.ino
  ·exact .inr (hc e)
  exact .inl e
 have hfrom:∀{m:Nod},m∈Br (BV d.nodes n0.ino name 0) a.ino→(∃n'∈d.nodes,AsWas n0.ino name 0 n' m)∧m∈BV d.nodes n0.ino name 0∧(m.ino≠a.ino∨0<BX a.ino (BV d.nodes n0.ino name 0)):=by
  intro m hm;obtain⟨h1,h2⟩:=LF.1 hm;exact⟨Ds h1,h1,h2⟩
 have hsub:∀{n' m:Nod} {e:BF},AsWas n0.ino name 0 n' m→e∈m.entries→e∈n'.entries:=by
  intro n' m e hw he;rw[hw.ents]at he;split at he
  ·rcases LC he with h1|h1
   ·exact h1
   exact absurd rfl h1.2
  exact he
 refine⟨?_,h.next2,h.nextM,?_,?_,?_,?_,?_,?_,?_,?_,?_,?_,?_,?_⟩
 ·have h1:(Br (BV d.nodes n0.ino name 0) a.ino).length≤(BV d.nodes n0.ino name 0).length:=List.length_filter_le _ _;rw[PD]at h1;exact Nat.le_trans h1 h.len
 ·obtain⟨r,rest,hr,h1,h2,h3⟩:=PF n0.ino name 0 h.root;refine⟨r,rest.filter fun m=>decide (m.ino≠a.ino∨0<BX a.ino (BV d.nodes n0.ino name 0)),?_,h1,h2,h3⟩;show Br (BV d.nodes n0.ino name 0) a.ino=_;unfold Br
  conv=>lhs;rw[hr]
  rw[List.filter_cons,if_pos (decide_eq_true (.inl (by rw[h1];exact fun e=>ha1 e.symm))),hr]
 ·exact List.Pairwise.filter _ (Jk h.asc _ _ _)
 ·intro m hm;obtain⟨⟨n',hn',hw⟩,_⟩:=hfrom hm;rw[hw.ino];exact h.lt n' hn'
 ·intro m hm;obtain⟨⟨n',hn',hw⟩,_⟩:=hfrom hm;rw[hw.plain];exact h.plain n' hn'
 ·intro m hm hk';obtain⟨⟨n',hn',hw⟩,_⟩:=hfrom hm;rw[hw.kind]at hk';obtain⟨h1,h2⟩:=h.leaf n' hn' hk';refine⟨hw.parent.trans h1,?_⟩;rw[hw.ents,if_neg,h2];intro e;obtain rfl:=Ct h.asc hn' hn0 e;exact hk' hk
 ·intro m hm;obtain⟨⟨n',hn',hw⟩,_⟩:=hfrom hm;rw[hw.ents];split
  ·rw[G9];exact Nat.le_trans (List.length_filter_le _ _) (h.many n' hn')
  exact h.many n' hn'
 ·intro m hm;obtain⟨⟨n',hn',hw⟩,_⟩:=hfrom hm;rw[hw.ents];split
  ·exact Ji (h.sorted n' hn') _ _
  exact h.sorted n' hn'
 ·intro m hm e he;obtain⟨⟨n',hn',hw⟩,hm1,_⟩:=hfrom hm;obtain⟨k1,k2,q,hq,k3⟩:=h.ent n' hn' e (hsub hw he);obtain⟨m',hm',hw'⟩:=Ha n0.ino name 0 hq;refine⟨k1,k2,m',hkeep hm' (fun e1=>L8.2 ⟨m,hm1,e,he,?_⟩),hw'.ino.trans k3⟩;rw[←k3,←hw'.ino,e1]
 ·intro m hm h1;rw[hcnt];obtain⟨⟨n',hn',hw⟩,_,h2⟩:=hfrom hm;have h3:=hcnt1 m.ino;by_cases e:m.ino=a.ino
  ·rw[e]at h2 ⊢;rcases h2 with h2|h2
   ·exact absurd rfl h2
   exact h2
  rw[JG (fun h=>e h.symm)]at h3;have:=h.link n' hn' (by rw[←hw.ino];exact h1);rw[←hw.ino]at this;omega
 ·intro m hm h1 h4;rw[hcnt];obtain⟨⟨n',hn',hw⟩,_,h2⟩:=hfrom hm;have h3:=hcnt1 m.ino;have h5:=h.one n' hn' (by rw[←hw.ino];exact h1) (by rw[←hw.kind];exact h4);rw[←hw.ino]at h5;by_cases e:m.ino=a.ino
  ·exfalso;rw[LE e.symm]at h3;rcases h2 with h2|h2
   ·exact h2 e
   rw[←e]at h2;omega
  rw[JG (fun h=>e h.symm)]at h3;omega
 ·intro m hm h1 h4;obtain⟨⟨n',hn',hw⟩,_,h2⟩:=hfrom hm;obtain⟨p,hp',k1,e,he,k2⟩:=h.par n' hn' (by rw[←hw.ino];exact h1) (by rw[←hw.kind];exact h4);obtain⟨q,hq,hwq⟩:=Ha n0.ino name 0 hp'
  have hpa:p.ino≠a.ino:=fun e'=>by
   obtain rfl:=Ct h.asc hp' ha e';rw[hae]at he;cases he
  have hna':n'.ino≠a.ino:=fun e'=>by
   have h3:=hcnt1 m.ino;have h5:=h.one n' hn' (by rw[←hw.ino];exact h1) (by rw[←hw.kind];exact h4);rw[←hw.ino]at h5 e';rw[LE e'.symm]at h3;rcases h2 with h2|h2
   ·exact h2 e'
   rw[←e']at h2;omega
  refine⟨q,hkeep hq (fun e'=>absurd (hwq.ino.symm.trans e') hpa),by rw[hwq.ino,hw.parent];exact k1,e,?_,by rw[hw.ino];exact k2⟩;rw[hwq.ents];split
  ·rename_i heq;obtain rfl:=Ct h.asc hp' hn0 heq;refine LD he fun hnm=>?_;have:=PH (h.sorted p hp') he hem (hnm.trans hen.symm);rw[this,hea]at k2;exact hna' k2.symm
  exact he
 obtain⟨rk,hrk⟩:=h.rank;refine⟨rk,fun m hm h1 h2=>?_⟩;obtain⟨⟨n',hn',hw⟩,_⟩:=hfrom hm;rw[hw.ino,hw.parent];exact hrk n' hn' (by rw[←hw.ino];exact h1) (by rw[←hw.kind];exact h2)
end Go.Proofs.YtbgnigjfkbmceaaGreatDoor
namespace Go.Proofs.YtbgnigjfkbmceaaGreatDoor
theorem Sg:∀(xs l:List Int),xs.Nodup→(∀x∈xs,x∈l)→xs.length≤l.length
 |[],_,_,_=>BU _
 |x::xs,l,hd,hs=>by
   obtain⟨h1,h2⟩:=List.nodup_cons.1 hd;have hx:x∈l:=hs x (by simp);have ih:=Sg xs (l.erase x) h2 fun y hy=>(List.mem_erase_of_ne (fun e:y=x=>h1 (e ▸ hy))).2 (hs y (by simp[hy]));have hl:=List.length_erase_of_mem hx;have hp:0<l.length:=List.length_pos_of_mem hx;simp only[List.length_cons];omega
def LG(ns:List Nod):Nat→Int→Int→Prop
 |0,x,y=>x=y
 |k+1,x,y=>∃n∈ns,n.ino=x∧n.ino≠1∧n.kind=2∧LG ns k n.parent y
def F3(ns:List Nod)(x y:Int):Prop:=∃k,LG ns k x y
theorem Sh{ns:List Nod}{rk:Int→Nat}(hrk:∀n∈ns,n.ino≠1→n.kind=2→rk n.parent<rk n.ino):∀(k:Nat) (x y:Int),LG ns k x y→∃l:List Int,l.length=k∧l.Nodup∧∀z∈l,(∃n∈ns,n.ino=z)∧rk y<rk z∧rk z≤rk x
 |0,_,_,_=>⟨[],rfl,List.nodup_nil,by simp⟩
 |k+1,x,y,h=>by
   obtain⟨n,hn,rfl,h1,h2,h3⟩:=h;obtain⟨l,e,hd,hl⟩:=Sh hrk k _ _ h3;have hlt:=hrk n hn h1 h2
   have hy:rk y≤rk n.parent:=by
    cases l with
    |nil=>
      have hk:k=0:=by simpa using e.symm
      subst hk;have:n.parent=y:=h3;rw[this];exact At _
    |cons z l=>
      have:=hl z (by simp);omega
   refine⟨n.ino::l,by simp[e],List.nodup_cons.2 ⟨fun hm=>?_,hd⟩,?_⟩
   ·have:=(hl _ hm).2.2;omega
   intro z hz;rcases List.mem_cons.1 hz with rfl|hz
   ·exact⟨⟨n,hn,rfl⟩,by omega,At _⟩
   obtain⟨q1,q2,q3⟩:=hl z hz;exact⟨q1,q2,by omega⟩
theorem VD.anc_len{d:Dvc}(h:VD d){k:Nat}{x:Int}{a:Nod}(ha:a∈d.nodes)(hk:LG d.nodes k x a.ino):k+1≤d.nodes.length:=by
 obtain⟨rk,hrk⟩:=h.rank;obtain⟨l,e,hd,hl⟩:=Sh hrk k x a.ino hk
 have:=Sg (a.ino::l) (d.nodes.map (·.ino)) (List.nodup_cons.2 ⟨fun hm=>by have:=(hl _ hm).2.1;omega,hd⟩) (fun z hz=>by
  rcases List.mem_cons.1 hz with rfl|hz
  ·exact List.mem_map.2 ⟨a,ha,rfl⟩
  obtain⟨n,hn,e⟩:=(hl z hz).1
  exact List.mem_map.2 ⟨n,hn,e⟩)
 simp only[List.length_cons,List.length_map]at this;omega
def Dl(p1 p2:Int)(name name2:AG)(a:Int)(n:Nod):List BF:=
 let es:=if n.ino=p1 then CL n.entries name 0 else n.entries
 if n.ino=p2 then CL es name2 a else es
def GA(p1 p2:Int)(name name2:AG)(a:Int)(n:Nod):Nod:=
 {n with entries:=Dl p1 p2 name name2 a n,parent:=if n.ino=a∧n.kind=2 then p2 else n.parent}
def DD(ns:List Nod)(p1 p2:Int)(name name2:AG)(a:Int):List Nod:=ns.map (GA p1 p2 name name2 a)
def Fh(p:Int)(n:Nod):Nod:=if n.kind=2 then{n with parent:=p}else n
theorem Si(ns:List Nod)(p1 p2:Int)(name name2:AG)(a:Int):CN (BV (BV ns p1 name 0) p2 name2 a) a (Fh p2)=DD ns p1 p2 name name2 a:=by
 unfold BV CN DD;rw[List.map_map,List.map_map];apply List.map_congr_left;intro n _;obtain⟨ino,kind,mode,uid,gid,parent,target,entries⟩:=n;simp only[Function.comp];unfold GA Dl L9 Fh;by_cases h1:ino=p1<;>by_cases h2:ino=p2<;>by_cases h3:ino=a<;>by_cases h4:kind=2<;>simp[h1,h2,h3,h4]<;>(try simp_all)
theorem Xk{es:List BF}{name name2:AG}(h:name≠name2):Cs (Df name es) name2=Cs es name2:=by
 unfold Cs Df;rw[List.find?_filter]
 congr 1
 funext e
 by_cases h2:e.1=name2
 ·have:e.1≠name:=fun e'=>h (e'.symm.trans h2);simp[h2];intro e';exact h e'.symm
 simp[h2]
end Go.Proofs.YtbgnigjfkbmceaaGreatDoor
namespace Go.Proofs.YtbgnigjfkbmceaaGreatDoor
section
variable {p1 p2:Int}{name name2:AG}{a:Int}{n:Nod}
theorem Xl{e:BF}(h:e∈Dl p1 p2 name name2 a n):e∈n.entries∨(n.ino=p2∧e=(name2,a)):=by
 unfold Dl at h
 have base:∀{x:BF},x∈(if n.ino=p1 then CL n.entries name 0 else n.entries)→x∈n.entries:=by
  intro x hx;split at hx
  ·rcases LC hx with h1|h1
   ·exact h1
   exact absurd rfl h1.2
  exact hx
 simp only at h;split at h
 ·rename_i h2;rcases LC h with h1|h1
  ·exact .inl (base h1)
  exact .inr ⟨h2,h1.1⟩
 exact .inl (base h)
theorem Xm{e:BF}(h:e∈n.entries)(h1:n.ino=p1→e.1≠name)(h2:n.ino=p2→e.1≠name2):e∈Dl p1 p2 name name2 a n:=by
 unfold Dl
 have base:e∈(if n.ino=p1 then CL n.entries name 0 else n.entries):=by
  split
  ·rename_i e1;exact LD h (h1 e1)
  exact h
 simp only;split
 ·rename_i e2;exact LD base (h2 e2)
 exact base
theorem Xn(h:n.ino=p2)(ha:a≠0):(name2,a)∈Dl p1 p2 name name2 a n:=by
 unfold Dl;simp only[h,if_true];exact Se ha
theorem Xo(h:EF n.entries):EF (Dl p1 p2 name name2 a n):=by
 unfold Dl
 have base:EF (if n.ino=p1 then CL n.entries name 0 else n.entries):=by
  split
  ·exact Ji h _ _
  exact h
 simp only;split
 ·exact Ji base _ _
 exact base
end
open Classical in
noncomputable def LH (S:Int→Prop) (rk:Int→Nat) (c:Nat) (x:Int):Nat:=if S x then rk x+c else rk x
theorem PJ{S:Int→Prop}{rk:Int→Nat}{c:Nat}{x:Int}(h:S x):LH S rk c x=rk x+c:=by unfold LH;rw[if_pos h]
theorem PK{S:Int→Prop}{rk:Int→Nat}{c:Nat}{x:Int}(h:¬S x):LH S rk c x=rk x:=by unfold LH;rw[if_neg h]
theorem VD.renamed{d:Dvc}(h:VD d){n1 n2 a:Nod}(hn1:n1∈d.nodes)(hn2:n2∈d.nodes)(ha:a∈d.nodes)(hk2:n2.kind=2){name name2:AG}{e1:BF}(he1:Cs n1.entries name=some e1)(hea:e1.2=a.ino)
    (hname2:Cn name2=true) (hdiff:n1.ino=n2.ino→name≠name2) (hanc:a.kind=2→¬F3 d.nodes n2.ino a.ino) {oi:Int}
    (ho:(Cs n2.entries name2=none∧(n2.entries.length<12∨n1.ino=n2.ino)∧oi=0)∨(∃eo o,Cs n2.entries name2=some eo∧o∈d.nodes∧eo.2=oi∧o.ino=oi∧oi≠a.ino∧o.entries=[])):
    VD ⟨d.next,Br (DD d.nodes n1.ino n2.ino name name2 a.ino) oi⟩:=by
 obtain⟨hem,hen⟩:=Fg he1;have ha1:a.ino≠1:=by rw[←hea];exact(h.ent n1 hn1 e1 hem).2.1
 have ha0:a.ino≠0:=by have:=h.pos ha;omega
 have hoa:oi≠a.ino:=by
  rcases ho with⟨_,_,h1⟩|⟨_,_,_,_,_,_,h1,_⟩
  ·omega
  exact h1
 have ho1:oi≠1:=by
  rcases ho with⟨_,_,h1⟩|⟨eo,o,h1,_,h2,_⟩
  ·omega
  obtain⟨q1,_⟩:=Fg h1;rw[←h2];exact(h.ent n2 hn2 eo q1).2.1
 have hoe:∀m∈d.nodes,m.ino=oi→m.entries=[]:=by
  intro m hm e;rcases ho with⟨_,_,h1⟩|⟨eo,o,_,h1,_,h2,_,h3⟩
  ·have:=h.pos hm;omega
  obtain rfl:=Ct h.asc hm h1 (by omega);exact h3
 have hm2:=Ha n1.ino name 0 hn2;obtain⟨m2,hm2,hw2⟩:=hm2
 have hf2:Cs m2.entries name2=Cs n2.entries name2:=by
  rw[hw2.ents];split
  ·rename_i e;rw[G9,Xk (hdiff e.symm)]
  rfl
 have hasc1:=Jk h.asc n1.ino name 0;have hasc2:=Jk hasc1 n2.ino name2 a.ino
 have hsort2:EF m2.entries:=by
  rw[hw2.ents];split
  ·exact Ji (h.sorted n2 hn2) _ _
  exact h.sorted n2 hn2
 have hcntR:∀i,1≤i→BX i (DD d.nodes n1.ino n2.ino name name2 a.ino)+b1 (oi=i)=BX i d.nodes:=by
  intro i hi;have c1:=LA h.asc hn1 name 0 i;have c2:=Sd (h.sorted n1 hn1) he1 i;rw[hea]at c2;have c3:=LA hasc1 hm2 name2 a.ino i;rw[hw2.ino]at c3;obtain⟨m',hm',hw'⟩:=Ha n1.ino name 0 ha;obtain⟨m'',hm'',hw''⟩:=Ha (ns:=BV d.nodes n1.ino name 0) n2.ino name2 a.ino hm';have c4:=PB hasc2 hm'' (Fh n2.ino) i;have e4:(Fh n2.ino m'').entries=m''.entries:=by unfold Fh;split<;>rfl
  rw[e4,hw''.ino,hw'.ino,Si]at c4;rcases ho with⟨h1,_,h2⟩|⟨eo,o,h1,_,h2,_⟩
  ·have c5:=PG (hf2.trans h1) ha0 i;rw[JG (show¬oi=i by omega)];omega
  have c5:=Xj hsort2 (hf2.trans h1) ha0 i;rw[h2]at c5;omega
 have hmem:∀{m:Nod},m∈Br (DD d.nodes n1.ino n2.ino name name2 a.ino) oi→(∃n∈d.nodes,m=GA n1.ino n2.ino name name2 a.ino n)∧m∈DD d.nodes n1.ino n2.ino name name2 a.ino∧(m.ino≠oi∨0<BX oi (DD d.nodes n1.ino n2.ino name name2 a.ino)):=by
  intro m hm;obtain⟨q1,q2⟩:=LF.1 hm;obtain⟨n,hn,e⟩:=List.mem_map.1 q1;exact⟨⟨n,hn,e.symm⟩,q1,q2⟩
 have hkeep:∀{n:Nod},n∈d.nodes→(n.ino=oi→0<BX oi (DD d.nodes n1.ino n2.ino name name2 a.ino))→GA n1.ino n2.ino name name2 a.ino n∈Br (DD d.nodes n1.ino n2.ino name name2 a.ino) oi:=by
  intro n hn hc;refine LF.2 ⟨List.mem_map.2 ⟨n,hn,rfl⟩,?_⟩;by_cases e:n.ino=oi
  ·exact .inr (hc e)
  exact .inl e
 have hcnt:∀i,BX i (Br (DD d.nodes n1.ino n2.ino name name2 a.ino) oi)=BX i (DD d.nodes n1.ino n2.ino name name2 a.ino):=by
  refine fun i=>Sf (fun m hm hp=>?_) i;have hp':=of_decide_eq_false hp;obtain⟨n,hn,rfl⟩:=List.mem_map.1 hm;have hmi:n.ino=oi:=Classical.byContradiction fun h=>hp' (.inl h);have h0:=hoe n hn hmi
  have q1:n.ino≠n1.ino:=fun e=>by
   obtain rfl:=Ct h.asc hn hn1 e;rw[h0]at hem;cases hem
  have q2:n.ino≠n2.ino:=fun e=>by
   obtain rfl:=Ct h.asc hn hn2 e;rcases ho with⟨_,_,h1⟩|⟨eo,o,h1,_⟩
   ·have:=h.pos hn;omega
   obtain⟨q,_⟩:=Fg h1;rw[h0]at q;cases q
  show Dl n1.ino n2.ino name name2 a.ino n=[];unfold Dl;simp only[q1,q2,if_false];exact h0
 have hdo:∀{n:Nod},n∈d.nodes→n.ino≠1→n.kind=2→(n.ino≠oi∨0<BX oi (DD d.nodes n1.ino n2.ino name name2 a.ino))→n.ino≠oi:=by
  intro n hn h1 h2 hc e;rcases hc with hc|hc
  ·exact hc e
  have c1:=h.one n hn h1 h2;have c2:=hcntR n.ino (h.pos hn);rw[LE e.symm]at c2;rw[←e]at hc;omega
 refine⟨?_,h.next2,h.nextM,?_,?_,?_,?_,?_,?_,?_,?_,?_,?_,?_,?_⟩
 ·have q1:(Br (DD d.nodes n1.ino n2.ino name name2 a.ino) oi).length≤(DD d.nodes n1.ino n2.ino name name2 a.ino).length:=List.length_filter_le _ _;have q2:(DD d.nodes n1.ino n2.ino name name2 a.ino).length=d.nodes.length:=by simp[DD]
  have:=h.len;show(Br _ _).length≤16;omega
 ·obtain⟨r,rest,hr,h1,h2,h3⟩:=h.root;refine⟨GA n1.ino n2.ino name name2 a.ino r,(rest.map (GA n1.ino n2.ino name name2 a.ino)).filter fun m=>decide (m.ino≠oi∨0<BX oi (DD d.nodes n1.ino n2.ino name name2 a.ino)),?_,h1,h2,?_⟩
  ·show Br (DD d.nodes n1.ino n2.ino name name2 a.ino) oi=_;have e:DD d.nodes n1.ino n2.ino name name2 a.ino=GA n1.ino n2.ino name name2 a.ino r::rest.map (GA n1.ino n2.ino name name2 a.ino):=by unfold DD;rw[hr];rfl
   unfold Br
   conv=>lhs;arg 2;rw[e]
   rw[List.filter_cons,if_pos (decide_eq_true (.inl (by show r.ino≠oi;rw[h1];exact fun e=>ho1 e.symm)))]
  show(if r.ino=a.ino∧r.kind=2 then n2.ino else r.parent)=1;rw[if_neg (fun e=>ha1 (by rw[←e.1];exact h1))];exact h3
 ·refine List.Pairwise.filter _ ?_;show DM (DD d.nodes n1.ino n2.ino name name2 a.ino);rw[PA]
  have e:(DD d.nodes n1.ino n2.ino name name2 a.ino).map (·.ino)=d.nodes.map (·.ino):=by
   unfold DD;rw[List.map_map];rfl
  rw[e,←PA];exact h.asc
 ·intro m hm;obtain⟨⟨n,hn,rfl⟩,_⟩:=hmem hm;exact h.lt n hn
 ·intro m hm;obtain⟨⟨n,hn,rfl⟩,_⟩:=hmem hm;exact h.plain n hn
 ·intro m hm hk;obtain⟨⟨n,hn,rfl⟩,_⟩:=hmem hm;have hk':n.kind≠2:=hk;obtain⟨q1,q2⟩:=h.leaf n hn hk';refine⟨?_,?_⟩
  ·show(if n.ino=a.ino∧n.kind=2 then n2.ino else n.parent)=0;rw[if_neg (fun e=>hk' e.2)];exact q1
  show Dl n1.ino n2.ino name name2 a.ino n=[]
  have r1:n.ino≠n1.ino:=fun e=>by
   obtain rfl:=Ct h.asc hn hn1 e;rw[q2]at hem;cases hem
  have r2:n.ino≠n2.ino:=fun e=>by
   obtain rfl:=Ct h.asc hn hn2 e;exact hk' hk2
  unfold Dl;simp only[r1,r2,if_false];exact q2
 ·intro m hm;obtain⟨⟨n,hn,rfl⟩,_⟩:=hmem hm;show(Dl n1.ino n2.ino name name2 a.ino n).length≤12;by_cases q2:n.ino=n2.ino
  ·obtain rfl:=Ct h.asc hn hn2 q2
   have e2:Dl n1.ino n.ino name name2 a.ino n=CL m2.entries name2 a.ino:=by
    unfold Dl;simp only[if_true];rw[hw2.ents]
   rw[e2,(Gb _ name2 ha0).length_eq,List.length_cons];rcases ho with⟨h1,h2,_⟩|⟨eo,o,h1,_⟩
   ·rw[Mt (hf2.trans h1),hw2.ents];rcases h2 with h2|h2
    ·split
     ·rw[G9];have:(Df name n.entries).length≤n.entries.length:=List.length_filter_le _ _;omega
     omega
    rw[if_pos h2.symm,G9];obtain rfl:=Ct h.asc hn1 hn h2;have:=(Mu (h.sorted n1 hn1) he1).length_eq;rw[List.length_cons]at this;have:=h.many n1 hn1;omega
   have c1:=(Mu hsort2 (hf2.trans h1)).length_eq;rw[List.length_cons]at c1
   have c2:m2.entries.length≤n.entries.length:=by
    rw[hw2.ents];split
    ·rw[G9];exact List.length_filter_le _ _
    exact At _
   have:=h.many n hn;omega
  unfold Dl;simp only[q2,if_false];split
  ·rw[G9];exact Nat.le_trans (List.length_filter_le _ _) (h.many n hn)
  exact h.many n hn
 ·intro m hm;obtain⟨⟨n,hn,rfl⟩,_⟩:=hmem hm;exact Xo (h.sorted n hn)
 ·intro m hm e he;obtain⟨⟨n,hn,rfl⟩,hmR,_⟩:=hmem hm;have he':e∈Dl n1.ino n2.ino name name2 a.ino n:=he;rcases Xl he' with q|⟨_,rfl⟩
  ·obtain⟨k1,k2,x,hx,k3⟩:=h.ent n hn e q;refine⟨k1,k2,_,hkeep hx (fun e1=>L8.2 ⟨_,hmR,e,he,?_⟩),k3⟩;rw[←k3,e1]
  exact⟨hname2,ha1,_,hkeep ha (fun e1=>absurd e1.symm hoa),rfl⟩
 ·intro m hm h1;rw[hcnt];obtain⟨⟨n,hn,rfl⟩,_,hc⟩:=hmem hm;have h1':n.ino≠1:=h1;show 0<BX n.ino _;have c1:=hcntR n.ino (h.pos hn);by_cases e:n.ino=oi
  ·rcases hc with hc|hc
   ·exact absurd e hc
   rw[e];exact hc
  rw[JG (fun h=>e h.symm)]at c1;have:=h.link n hn h1';omega
 ·intro m hm h1 h2;rw[hcnt];obtain⟨⟨n,hn,rfl⟩,_,hc⟩:=hmem hm;have h1':n.ino≠1:=h1;have h2':n.kind=2:=h2;show BX n.ino _=1;have c1:=hcntR n.ino (h.pos hn);rw[JG (fun e=>hdo hn h1' h2' hc e.symm)]at c1;have:=h.one n hn h1' h2';omega
 ·intro m hm h1 h2;obtain⟨⟨n,hn,rfl⟩,_,hc⟩:=hmem hm;have h1':n.ino≠1:=h1;have h2':n.kind=2:=h2;have hno:=hdo hn h1' h2' hc;by_cases hna:n.ino=a.ino
  ·refine⟨_,hkeep hn2 (fun e=>?_),?_,(name2,a.ino),Xn rfl ha0,hna.symm⟩
   ·exfalso;rcases ho with⟨_,_,q⟩|⟨eo,o,q,_⟩
    ·have:=h.pos hn2;omega
    obtain⟨q1,_⟩:=Fg q;rw[hoe n2 hn2 e]at q1;cases q1
   show n2.ino=if n.ino=a.ino∧n.kind=2 then n2.ino else n.parent
   rw[if_pos ⟨hna,h2'⟩]
  obtain⟨p,hp,k1,e,he,k2⟩:=h.par n hn h1' h2';refine⟨_,hkeep hp (fun e'=>?_),?_,e,Xm he (fun e' hnm=>?_) (fun e' hnm=>?_),k2⟩
  ·exfalso;rw[hoe p hp e']at he;cases he
  ·show p.ino=if n.ino=a.ino∧n.kind=2 then n2.ino else n.parent
   rw[if_neg (fun q=>hna q.1)];exact k1
  ·obtain rfl:=Ct h.asc hp hn1 e';have:=PH (h.sorted p hp) he hem (hnm.trans hen.symm);rw[this,hea]at k2;exact hna k2.symm
  obtain rfl:=Ct h.asc hp hn2 e';rcases ho with⟨q,_⟩|⟨eo,o,q,_,q2,_⟩
  ·exact Ms q e he hnm
  obtain⟨r1,r2⟩:=Fg q;have:=PH (h.sorted p hp) he r1 (hnm.trans r2.symm);rw[this,q2]at k2;exact hno k2.symm
 obtain⟨rk,hrk⟩:=h.rank;by_cases hka:a.kind=2
 ·have hS:=hanc hka;refine⟨LH (fun x=>F3 d.nodes x a.ino) rk (rk n2.ino+1),fun m hm h1 h2=>?_⟩;obtain⟨⟨n,hn,rfl⟩,_,_⟩:=hmem hm;have h1':n.ino≠1:=h1;have h2':n.kind=2:=h2;have eP:(GA n1.ino n2.ino name name2 a.ino n).parent=if n.ino=a.ino∧n.kind=2 then n2.ino else n.parent:=rfl
  have eI:(GA n1.ino n2.ino name name2 a.ino n).ino=n.ino:=rfl;rw[eP,eI];by_cases hna:n.ino=a.ino
  ·rw[if_pos ⟨hna,h2'⟩,PK (S:=fun x=>F3 d.nodes x a.ino) hS,PJ (S:=fun x=>F3 d.nodes x a.ino) (show F3 d.nodes n.ino a.ino from⟨0,hna⟩)];omega
  have hlt:=hrk n hn h1' h2';rw[if_neg (fun q=>hna q.1)];by_cases hA:F3 d.nodes n.ino a.ino
  ·have hP:F3 d.nodes n.parent a.ino:=by
      obtain⟨k,hk⟩:=hA
      cases k with
      |zero=>exact absurd hk hna
      |succ k=>
        obtain⟨n',hn',e1,_,_,q⟩:=hk;obtain rfl:=Ct h.asc hn' hn e1;exact⟨k,q⟩
   rw[PJ (S:=fun x=>F3 d.nodes x a.ino) hP,PJ (S:=fun x=>F3 d.nodes x a.ino) hA];omega
  have hP:¬F3 d.nodes n.parent a.ino:=fun⟨k,hk⟩=>hA ⟨k+1,n,hn,rfl,h1',h2',hk⟩;rw[PK (S:=fun x=>F3 d.nodes x a.ino) hP,PK (S:=fun x=>F3 d.nodes x a.ino) hA];exact hlt
 refine⟨rk,fun m hm h1 h2=>?_⟩;obtain⟨⟨n,hn,rfl⟩,_,_⟩:=hmem hm;have h2':n.kind=2:=h2;show rk (if n.ino=a.ino∧n.kind=2 then n2.ino else n.parent)<rk n.ino
 rw[if_neg (fun q=>hka (by
  obtain rfl:=Ct h.asc hn ha q.1
  exact q.2))]
 exact hrk n hn h1 h2'
end Go.Proofs.YtbgnigjfkbmceaaGreatDoor
