/-
  Part 13 of the proof of WatchReplacedP: what the statement's proof uses of the texts in wip/tpl.
-/
import Derived.Shelf.Abstract
import Derived.Shelf.RegionOpen
import Derived.OwnWalkIn
import Derived.TacticsInMore
import Derived.LoopNIn
import Derived.LoopIn
import Derived.Maps.AppendAt
import Derived.OwnWalk
import Derived.Test.YtobclmbkdhbnpaaGreatDoorQa12
open Go.Proofs.Tryz (prog)
set_option maxRecDepth 10000
set_option maxHeartbeats 4000000
set_option linter.unusedVariables false
set_option linter.unusedSimpArgs false
namespace Go.Proofs.YtobclmbkdhbnpaaGreatDoor
open Go.RowKit
def E6:List AV:=[.v (.int .i64 0), .v (.int .i64 0), .v (.slice none 0 0)]
def D1(t:Tab)(x:AV):List AV:=[.v (.int .i64 t.next), .v (.int .i64 t.nextS),x]
def Di(f:Prc→Prc)(l:List Prc)(j:Nat):List Prc:=(l.take j).map f++l.drop j
def FZ(p x:Prc):Prc:=if x.pid=p.pid then p else x
theorem Jd(f:Prc→Prc)(l:List Prc)(j:Nat):(Di f l j).length=l.length:=by
 unfold Di;simp;omega
theorem RG{f:Prc→Prc}{l:List Prc}{j:Nat}{x:Prc}(h:l[j]?=some x):(Di f l j)[j]?=some x:=by
 have hl:=(Ai.1 h).1;unfold Di;rw[DP (by simp;omega)];simp only[List.length_map,List.length_take,List.getElem?_drop];rw[show j+(j - min j l.length)=j by omega];exact h
theorem V0{f:Prc→Prc}{l:List Prc}{j:Nat}{x:Prc}(h:l[j]?=some x):(Di f l j).set j (f x)=Di f l (j+1):=by
 obtain⟨hl,e⟩:=Ai.1 h;unfold Di;rw[List.take_add_one,h,List.drop_eq_getElem_cons hl,List.set_append_right _ _ (by simp;omega)];simp only[List.length_map,List.length_take,List.map_append,List.append_assoc];rw[show j - min j l.length=0 by omega];rfl
theorem dC{f:Prc→Prc}{l:List Prc}{j:Nat}{x:Prc}(h:l[j]?=some x)(hf:f x=x):Di f l j=Di f l (j+1):=by
 rw[←V0 h,hf];have h2:=RG (f:=f) h;obtain⟨h3,h4⟩:=Ai.1 h2;rw[←h4,List.set_getElem_self]
theorem dD(f:Prc→Prc)(l:List Prc):Di f l l.length=l.map f:=by
 unfold Di;simp
theorem V1{t:Tab}{pid:Int}{p:Prc}(h:L5 t pid=some p):p∈t.ps:=List.mem_of_find?_eq_some h
theorem dF{t:Tab}(ht:TabB t)(pid:Int):(Az t pid).opens.length≤8:=by
 unfold Az
 cases h:L5 t pid with
 |none=>exact BJ _
 |some p=>exact ht.opens p (V1 h)
theorem dG{t:Tab}{pid:Int}(h:E5 t pid=true):0<t.ps.length:=by
 unfold E5 at h;obtain⟨p,hp⟩:=Option.isSome_iff_exists.1 h;exact List.length_pos_of_mem (V1 hp)
theorem dH{bx:List (List AV)}{n:Nat}(hn:bx.length=n)(t:Tab)(cap:Nat):Back bx [] [CD t,D1 t (.bs 3 0 14 t.ps.length cap),D1 t (.bs 3 0 14 t.ps.length cap),LB 14 Bl t.ps cap] (bx++[CD t,D1 t (.bs (n+3) 0 14 t.ps.length cap),D1 t (.bs (n+3) 0 14 t.ps.length cap),LB 14 Bl t.ps cap]):=by
 subst hn;have:=RF (bx:=bx) (is:=[]) (bc:=[CD t,D1 t (.bs 3 0 14 t.ps.length cap),D1 t (.bs 3 0 14 t.ps.length cap),LB 14 Bl t.ps cap]) List.nodup_nil (by simp) (by simp);have e1:DH (E0 [] bx.length) (CD t)=CD t:=rfl;have e2:DH (E0 [] bx.length) (D1 t (.bs 3 0 14 t.ps.length cap))=D1 t (.bs (bx.length+3) 0 14 t.ps.length cap):=by simp[DH,D1,Eg,E0]
 simpa[Dh,GG EJ,e1,e2]using this
section
theorem ON(p:Prc)(hp:p.opens.length≤1000):AFn prog 92 [.agg (Bl p)] (fun r=>r= .agg (Bl p)):=by
 refine enter Tryz.func92 rfl rfl rfl rfl rfl 0 rfl ?_;refine w_ (b_ (h:=Af (h:=e_ (w_ (f_ (h:=l_ (h:=?_)))))))
 first|refine A7 rfl (Eo rfl rfl rfl (by simp;omega) (by repeat constructor) ?_)|refine A7 rfl (Ep rfl rfl (by simp;omega) (by repeat constructor) ?_)
 refine f_ (h:=s_ (h:=e_ (w_ (l_ (h:=s_ (h:=e_ (A6 (?_))))))));refine AA ?_;rfl
theorem dJ(t:Tab)(ht:TabB t):AFn prog 93 [.agg (CD t)] (fun r=>r= .agg (CD t)):=by
 have hfew:=ht.few;refine enter Tryz.func93 rfl rfl rfl rfl rfl 0 rfl ?_;refine w_ (b_ (h:=Af (h:=e_ (w_ (f_ (h:=l_ (h:=f_ (h:=l_ (h:=Aa (h:=Af (h:=s_ (h:=e_ (q_ (w_ (a_ (h:=e_ (Ao (?_))))))))))))))))));refine PJ 2 2 128 14 rfl rfl (by repeat constructor) (by repeat constructor) (by repeat constructor) ?_;refine Bm (fun m s=>∃j:Nat,j≤t.ps.length∧m=t.ps.length - j∧s=⟨look [(1, .bp 0 0),(2, .bp 1 0),(3, .bp 2 0),(4, .v (.int .i64 (j:Int)))],⟨[CD t,E6,D1 t (.sl 14 ((t.ps.take j).map Bl) (some 0))],[(128,14,(t.ps.take j).map Bl)]⟩⟩) (t.ps.length) ((wk 3 1)) (⟨0,BJ _,rfl,rfl⟩) ?_;rintro m s ⟨j,hj,rfl,rfl⟩;refine q_ (w_ (m_ (h:=f_ (h:=l_ (h:=n_ (h:=BO (h:=e_ (?_))))))));refine A8 rfl (fun hb1=>?_) (fun hb1=>?_)
 ·have hc1:=bp hb1;obtain⟨hlt,p,hy,hrow,e⟩:=CF Bl hc1;have hop:p.opens.length≤1000:=by have:=ht.opens p (Aj hy);omega
  refine AN (q_ (Ao (Bi ([(0,CD t),(1,E6),(2,D1 t (.sl 14 ((t.ps.take j).map Bl) (some 0)))]) 11 (h:=AQ 0 (h:=AF 1 (h:=AQ 2 (h:=AF 3 (h:=AP 4 (h:=Dr 5 (h:=AF 6 (h:=?_)))))))))));refine c_ 7 rfl (AK (ON p hop) ?_);rintro r rfl;refine o_ (h:=Ka 8 (h:=?_))
  first|refine c_ 9 rfl (Eo rfl rfl rfl (by simp;omega) (by repeat constructor) ?_)|refine c_ 9 rfl (Ep rfl rfl (by simp;omega) (by repeat constructor) ?_)
  refine o_ (h:=AQ 10 (h:=?_));refine B8 11 rfl (B3 rfl rfl rfl rfl rfl rfl (by repeat constructor) (by repeat constructor) ?_);refine o_ (h:=z_ (h:=Au (t_ (AX (m_ (h:=B2 (h:=a_ (h:=AW (?_)))))))));refine AJ ?_;refine⟨_,_,?_,⟨j+1,by omega,rfl,rfl⟩,(by rw[e];exact B7 3 1 rfl rfl rfl rfl ((by repeat (first|exact Sub.nil|refine B9 rfl rfl ?_|refine BC ?_|refine BD rfl ?_|refine BE rfl ?_))))⟩;omega
 have hc1:=bp hb1;have e:=Cx Bl hj hc1;subst e;rw[List.take_length];refine BU (Am (Am (BV (t_ (w_ (l_ (h:=s_ (h:=e_ (A6 (?_))))))))));refine AA ?_;rfl
theorem dL(t:Tab)(ht:TabB t)(h0:0<t.ps.length):ACall prog 93 [.agg (CD t)] [] (fun r b tk=>tk=[]∧∃cap,t.ps.length≤cap∧r= .agg (D1 t (.bs 3 0 14 t.ps.length cap))∧b=[CD t,D1 t (.bs 3 0 14 t.ps.length cap),D1 t (.bs 3 0 14 t.ps.length cap),LB 14 Bl t.ps cap]):=by
 have hfew:=ht.few;refine enter Tryz.func93 rfl rfl rfl rfl rfl 4 rfl ?_;refine w_ (b_ (h:=Af (h:=e_ (w_ (f_ (h:=l_ (h:=f_ (h:=l_ (h:=Aa (h:=Af (h:=s_ (h:=e_ (q_ (w_ (a_ (h:=e_ (Ao (?_))))))))))))))))));refine Bm (fun m s=>∃(j:Nat) (acc:List Prc),j≤t.ps.length∧m=t.ps.length - j∧t.ps.take j=acc∧((acc=[]∧s=⟨look [(1, .bp 0 0),(2, .bp 1 0),(3, .bp 2 0),(4, .v (.int .i64 (j:Int)))],⟨[CD t,E6,D1 t (.v (.slice none 0 0))],[]⟩⟩)∨(∃cap,acc.length≤cap∧s=⟨look [(1, .bp 0 0),(2, .bp 1 0),(3, .bp 2 0),(4, .v (.int .i64 (j:Int)))],⟨[CD t,E6,D1 t (.bs 3 0 14 acc.length cap),LB 14 Bl acc cap],[]⟩⟩))) (t.ps.length) ((wk 3 0)) (⟨0,[],BJ _,rfl,rfl, .inl ⟨rfl,rfl⟩⟩) ?_;rintro m s ⟨j,acc,hj,rfl,hacc,⟨rfl,rfl⟩|⟨cap,hcp,rfl⟩⟩
 ·skip
  refine q_ (w_ (m_ (h:=f_ (h:=l_ (h:=n_ (h:=BO (h:=e_ (?_))))))));refine A8 rfl (fun hb1=>?_) (fun hb1=>?_)
  ·have hc1:=bp hb1;obtain⟨hlt,p,hy,hrow, -⟩:=CF Bl hc1;have hk:t.ps.take (j+1)=t.ps.take j++[p]:=by rw[List.take_add_one,hy];rfl
   have hop:p.opens.length≤1000:=by have:=ht.opens p (Aj hy);omega
   refine AN (q_ (Ao (Bi ([(0,CD t),(1,E6),(2,D1 t (.v (.slice none 0 0)))]) 11 (h:=AQ 0 (h:=AF 1 (h:=AQ 2 (h:=AF 3 (h:=AP 4 (h:=Dr 5 (h:=AF 6 (h:=?_)))))))))));refine c_ 7 rfl (AK (ON p hop) ?_);rintro r rfl;refine o_ (h:=Ka 8 (h:=?_));refine c_ 9 rfl (Na rfl rfl JP (by omega) (by omega) ?_);rintro cap2 k bx2 hcp hs;rw[show CT (.agg (Bl p))++List.replicate ((cap2 - 1) * 14) AV.any=LB 14 Bl [p] cap2 from Uu EJ p cap2]at hs;obtain⟨rfl,rfl⟩:k=3∧bx2=[_,_,_,_]:=hs.eq;refine o_ (h:=?_);refine AQ 10 (h:=?_);refine B8 11 rfl (B3 rfl rfl rfl rfl rfl rfl (by repeat constructor) (by repeat constructor) ?_);refine o_ (h:=z_ (h:=Au (t_ (AX (m_ (h:=B2 (h:=a_ (h:=AW (?_)))))))));refine AJ ?_;exact⟨t.ps.length - (j+1),_,by omega,⟨j+1,[p],by omega,rfl,(by rw[hk,hacc];rfl), .inr ⟨cap2,hcp,rfl⟩⟩,B7 4 0 rfl rfl rfl (by simp[At,Aq,Ap,Bt EJ,CD,D1,E6]) ((by repeat (first|exact Sub.nil|refine B9 rfl rfl ?_|refine BC ?_|refine BD rfl ?_|refine BE rfl ?_)))⟩
  have hc1:=bp hb1;exfalso;have e:=Cx Bl hj hc1;rw[e,List.take_length]at hacc;rw[hacc]at h0;exact absurd h0 (by simp)
 skip
 refine q_ (w_ (m_ (h:=f_ (h:=l_ (h:=n_ (h:=BO (h:=e_ (?_))))))));refine A8 rfl (fun hb2=>?_) (fun hb2=>?_)
 ·have hc2:=bp hb2;obtain⟨hlt,p,hy,hrow, -⟩:=CF Bl hc2;have hk:t.ps.take (j+1)=t.ps.take j++[p]:=by rw[List.take_add_one,hy];rfl
  have hop:p.opens.length≤1000:=by have:=ht.opens p (Aj hy);omega
  refine AN (q_ (Ao (Bi ([(0,CD t),(1,E6),(2,D1 t (.bs 3 0 14 acc.length cap))]) 11 (h:=AQ 0 (h:=AF 1 (h:=AQ 2 (h:=AF 3 (h:=AP 4 (h:=Dr 5 (h:=AF 6 (h:=?_)))))))))));refine c_ 7 rfl (AK (ON p hop) ?_);rintro r rfl;refine o_ (h:=Ka 8 (h:=?_));refine c_ 9 rfl (Lg rfl rfl rfl (by rw[RC EJ hcp];omega) JP (by omega) (by have:=congrArg List.length hacc;simp at this;omega) ?_ ?_)
  ·rintro hg row2 bx2 hs hb;obtain rfl:=Uw EJ hs hg;obtain rfl:bx2=[_,_,_,_]:=hb.one.2;refine o_ (h:=?_);refine AQ 10 (h:=?_);refine B8 11 rfl (B3 rfl rfl rfl rfl rfl rfl (by repeat constructor) (by repeat constructor) ?_);refine o_ (h:=z_ (h:=Au (t_ (AX (m_ (h:=B2 (h:=a_ (h:=AW (?_)))))))));refine AJ ?_
   first|exact⟨t.ps.length - (j+1),_,by omega,⟨j+1,acc++[p],by omega,rfl,(by rw[hk,hacc]), .inr ⟨cap,by simpa using hg,by rw[List.length_append];rfl⟩⟩,B7 4 0 rfl rfl rfl (by simp[At,Aq,Ap,Bt EJ,CD,D1,E6]) ((by repeat (first|exact Sub.nil|refine B9 rfl rfl ?_|refine BC ?_|refine BD rfl ?_|refine BE rfl ?_)))⟩|exact⟨t.ps.length - (j+1),_,by omega,⟨j+1,acc++[p],by omega,rfl,(by rw[hk,hacc]), .inr ⟨cap3,by simpa using hcp3,by rw[List.length_append];rfl⟩⟩,EU [0,1,2,4] (fun i hi=>absurd hi (Nat.not_lt_zero i)) (by decide) (.cons _ _ _ _ _ rfl rfl (.cons _ _ _ _ _ rfl rfl (.cons _ _ _ _ _ rfl rfl (.cons _ _ _ _ _ rfl (H9 EJ _ _ _) .nil)))) (by repeat (first|exact SubK.nil|refine SubK.cons _ _ _ _ rfl (AM _) ?_))⟩
  rintro hg cap3 k bx2 hcp3 hs;rw[show((LB 14 Bl acc cap).drop 0).take (acc.length * 14)++CT (.agg (Bl p))++List.replicate ((cap3 - (acc.length+1)) * 14) AV.any=LB 14 Bl (acc++[p]) cap3 from Uv EJ acc p cap cap3]at hs;obtain⟨rfl,rfl⟩:k=4∧bx2=[_,_,_,_,_]:=hs.eq;refine o_ (h:=?_);refine AQ 10 (h:=?_);refine B8 11 rfl (B3 rfl rfl rfl rfl rfl rfl (by repeat constructor) (by repeat constructor) ?_);refine o_ (h:=z_ (h:=Au (t_ (AX (m_ (h:=B2 (h:=a_ (h:=AW (?_)))))))));refine AJ ?_
  first|exact⟨t.ps.length - (j+1),_,by omega,⟨j+1,acc++[p],by omega,rfl,(by rw[hk,hacc]), .inr ⟨cap,by simpa using hg,by rw[List.length_append];rfl⟩⟩,B7 4 0 rfl rfl rfl (by simp[At,Aq,Ap,Bt EJ,CD,D1,E6]) ((by repeat (first|exact Sub.nil|refine B9 rfl rfl ?_|refine BC ?_|refine BD rfl ?_|refine BE rfl ?_)))⟩|exact⟨t.ps.length - (j+1),_,by omega,⟨j+1,acc++[p],by omega,rfl,(by rw[hk,hacc]), .inr ⟨cap3,by simpa using hcp3,by rw[List.length_append];rfl⟩⟩,EU [0,1,2,4] (fun i hi=>absurd hi (Nat.not_lt_zero i)) (by decide) (.cons _ _ _ _ _ rfl rfl (.cons _ _ _ _ _ rfl rfl (.cons _ _ _ _ _ rfl rfl (.cons _ _ _ _ _ rfl (H9 EJ _ _ _) .nil)))) (by repeat (first|exact SubK.nil|refine SubK.cons _ _ _ _ rfl (AM _) ?_))⟩
 have hc2:=bp hb2;have e:=Cx Bl hj hc2;refine BU (Am (Am (BV (t_ (w_ (l_ (h:=s_ (h:=e_ (A6 (?_))))))))));rw[e,List.take_length]at hacc;subst hacc;refine B0 (r:= .agg (D1 t (.bs 3 0 14 t.ps.length cap))) none (h4:=(by simp[At,Aq,Ap,Bt EJ,CD,D1])) (h5:=(AM _)) (h6:=⟨rfl,cap,hcp,rfl,rfl⟩)
theorem V2(t:Tab)(pid:Int)(ht:TabB t):AFn prog 59 [.agg (CD t), .v (.int .i64 pid)] (fun r=>r= .tup [.agg (Bl (Az t pid)), .v (.bool (E5 t pid))]):=by
 have hfew:=ht.few;refine enter Tryz.func59 rfl rfl rfl rfl rfl 0 rfl ?_;refine w_ (b_ (h:=Af (h:=a_ (h:=e_ (q_ (w_ (a_ (h:=e_ (Ao (?_))))))))));refine Bm (fun m s=>∃j:Nat,j≤t.ps.length∧m=t.ps.length - j∧(∀i y,i<j→t.ps[i]?=some y→decide (y.pid=pid)=false)∧s=⟨look [(1, .v (.int .i64 pid)),(2, .bp 0 0),(4, .bp 1 0),(6, .v (.int .i64 (j:Int)))],⟨[CD t,[.v (.int .i64 0), .v (.int .i64 0), .v (.int .i64 0), .v (.int .i64 0), .v (.int .i64 0), .v (.int .i64 0), .v (.int .i64 0), .v (.int .i64 0), .v (.int .i64 0), .v (.int .i64 0), .v (.string ⟨#[]⟩), .v (.string ⟨#[]⟩), .v (.slice none 0 0), .v (.bool false)]],[]⟩⟩) (t.ps.length) ((wk 2 0)) (⟨0,BJ _,rfl,fun i y hi=>by omega,rfl⟩) ?_;rintro m s ⟨j,hj,rfl,ha,rfl⟩;refine q_ (w_ (m_ (h:=f_ (h:=l_ (h:=n_ (h:=BO (h:=e_ (?_))))))));refine A8 rfl (fun hb1=>?_) (fun hb1=>?_)
 ·have hc1:=bp hb1;obtain⟨hlt,p,hy,hrow, -⟩:=CF Bl hc1;have hop:p.opens.length≤1000:=by have:=ht.opens p (Aj hy);omega
  refine AN (q_ (Ao (w_ (f_ (h:=l_ (h:=m_ (h:=i_ (h:=f_ (h:=l_ (h:=m_ (h:=Ac (h:=e_ (?_)))))))))))));refine A8 rfl (fun hb2=>?_) (fun hb2=>?_)
  ·have hc2:=bp hb2;have hg:L5 t pid=some p:=GM hy (decide_eq_true hc2) ha;refine w_ (f_ (h:=l_ (h:=m_ (h:=i_ (h:=l_ (h:=?_))))));refine A7 rfl (AK (ON p hop) ?_);rintro r rfl;refine s_ (h:=a_ (h:=e_ (A6 (AR (A4 (A4 (AR (A4 (?_)))))))));refine AA ?_;rw[Az,E5,hg];rfl
  have hc2:=bp hb2;refine BA (Au (t_ (AX (m_ (h:=B2 (h:=a_ (h:=AW (?_))))))));refine AJ ?_;refine⟨_,_,?_,⟨j+1,by omega,rfl,EW hy ha (decide_eq_false hc2),rfl⟩,(wk 2 0)⟩;omega
 have hc1:=bp hb1;have e:=Cx Bl hj hc1;subst e;have hg:L5 t pid=none:=GN ha;refine BU (Am (Am (BV (t_ (w_ (Aa (h:=s_ (h:=a_ (h:=e_ (A6 (?_)))))))))));refine B0 (r:= .tup [.agg (Bl (Az t pid)), .v (.bool (E5 t pid))]) none (h5:=?_) (h6:=⟨rfl,rfl,rfl⟩);rw[Az,E5,hg];exact(by repeat (first|exact AM _|exact LeA.nil _|exact LeL.refl _|refine LeA.agg ?_|refine LeA.tup ?_|exact LeL.nil|refine LeL.cons ?_ ?_|exact LeA.any _))
theorem dM(t:Tab)(p:Prc)(ht:TabB t)(h0:0<t.ps.length)(hp:p.opens.length≤1000):AFn prog 165 [.agg (CD t), .agg (Bl p)] (fun r=>r= .agg (CD (Gb t p))):=by
 have hfew:=ht.few;refine enter Tryz.func165 rfl rfl rfl rfl rfl 0 rfl ?_;refine w_ (b_ (h:=b_ (h:=Af (h:=e_ (?_)))));refine BY (fun s=>∃cap,t.ps.length≤cap∧s=⟨look [(3, .bp 1 0),(4, .bp 2 0),(5, .bp 3 0)],⟨[CD t,Bl p,E6,D1 t (.bs 4 0 14 (Di (FZ p) t.ps 0).length cap),LB 14 Bl (Di (FZ p) t.ps 0) cap],[]⟩⟩) ?_ ?_
 ·skip
  refine AX (l_ (h:=?_));refine A7 rfl (DJ [] rfl (.cons _ _ _ _ _ rfl (AM _) .nil) (by decide) .nil (dL t ht h0) ?_);rintro r bc tc ⟨rfl,cap,hcap,rfl,rfl⟩;refine⟨rfl,_,(dH (n:=3) rfl t cap:Back _ [] _ [_,_,_,_,_,_,_]),?_⟩;refine Af (h:=s_ (h:=AW (?_)));refine AJ ?_;exact⟨_,⟨cap,hcap,rfl⟩,EU [0,1,2,7,6] (fun i hi=>absurd hi (Nat.not_lt_zero i)) (by decide) (.cons _ _ _ _ _ rfl rfl (.cons _ _ _ _ _ rfl rfl (.cons _ _ _ _ _ rfl rfl (.cons _ _ _ _ _ rfl (by rw[Jd];rfl) (.cons _ _ _ _ _ rfl (H9 EJ _ _ _) .nil))))) (by repeat (first|exact SubK.nil|refine SubK.cons _ _ _ _ rfl (AM _) ?_))⟩
 rintro s ⟨cap,hcap,rfl⟩;refine BY (fun s=>s=⟨look [(4, .bp 2 0),(5, .bp 3 0)],⟨[CD t,Bl p,E6,CD (Gb t p)],[]⟩⟩) ?_ ?_
 ·skip
  refine w_ (a_ (h:=e_ (Ao (?_))));refine Bm (fun m s=>∃j:Nat,j≤t.ps.length∧m=t.ps.length - j∧s=⟨look [(3, .bp 1 0),(4, .bp 2 0),(5, .bp 3 0),(6, .v (.int .i64 (j:Int)))],⟨[CD t,Bl p,E6,D1 t (.bs 4 0 14 (Di (FZ p) t.ps j).length cap),LB 14 Bl (Di (FZ p) t.ps j) cap],[]⟩⟩) (t.ps.length) (Bj 5 0 (by simp[At,Aq,Ap,Bt EJ,CD,D1,E6,Bl])) (⟨0,BJ _,rfl,rfl⟩) ?_;rintro m s ⟨j,hj,rfl,rfl⟩;refine q_ (w_ (m_ (h:=f_ (h:=l_ (h:=?_)))));refine A7 rfl (PK rfl ?_);refine BO (h:=e_ (?_));refine A8 rfl (fun hb1=>?_) (fun hb1=>?_)
  ·have hc1:=bp hb1;have hlt:j<t.ps.length:=by rw[Jd]at hc1;omega
   obtain⟨x,hy⟩:∃x,t.ps[j]?=some x:=⟨_,BM hlt⟩;have hl1:j<(Di (FZ p) t.ps j).length:=by rw[Jd];exact hlt
   refine AN (q_ (Ao (q_ (Dk 9 (h:=AQ 0 (h:=AF 1 (h:=AP 2 (h:=?_))))))));refine F1 (i:=3) rfl (DG (m:=j) rfl rfl rfl hl1 ⟨rfl,rfl⟩) ?_;refine AQ 4 (h:=?_);refine F1 (i:=5) rfl (Bh rfl rfl (dB EJ (RG hy) rfl) ⟨rfl,rfl⟩) ?_;refine AQ 6 (h:=AF 7 (h:=GL 8 (h:=z_ (h:=t_ (?_)))));refine A8 rfl (fun hb2=>?_) (fun hb2=>?_)
   ·have hc2:=bp hb2;have hu:(Di (FZ p) t.ps j).set j p=Di (FZ p) t.ps (j+1):=by rw[←V0 hy,FZ,if_pos hc2]
    refine AX (f_ (h:=l_ (h:=m_ (h:=l_ (h:=?_)))));refine A7 rfl (DG (m:=j) rfl rfl rfl hl1 ?_);refine Ld (B3 rfl rfl rfl rfl rfl rfl (Ut EJ (x':=p) (RG hy)) (by repeat constructor) ?_);refine AW (Au (t_ (AX (m_ (h:=B2 (h:=a_ (h:=AW (?_))))))));refine AJ ?_;exact⟨t.ps.length - (j+1),_,by omega,⟨j+1,by omega,rfl,rfl⟩,(by first|(rw[hu,show(Di (FZ p) t.ps j).length=(Di (FZ p) t.ps (j+1)).length by rw[Jd,Jd]];exact Bj 5 0 (by simp[At,Aq,Ap,Bt EJ,CD,D1,E6,Bl]))|(rw[hu];exact Bj 5 0 (by simp[At,Aq,Ap,Bt EJ,CD,D1,E6,Bl])))⟩
   have hc2:=bp hb2;have hu:Di (FZ p) t.ps j=Di (FZ p) t.ps (j+1):=dC hy (if_neg hc2);refine BA (Au (t_ (AX (m_ (h:=B2 (h:=a_ (h:=AW (?_))))))));refine AJ ?_;exact⟨t.ps.length - (j+1),_,by omega,⟨j+1,by omega,rfl,rfl⟩,(by first|(rw[hu,show(Di (FZ p) t.ps j).length=(Di (FZ p) t.ps (j+1)).length by rw[Jd,Jd]];exact Bj 5 0 (by simp[At,Aq,Ap,Bt EJ,CD,D1,E6,Bl]))|(rw[hu];exact Bj 5 0 (by simp[At,Aq,Ap,Bt EJ,CD,D1,E6,Bl])))⟩
  have hc1:=bp hb1;obtain rfl:j=t.ps.length:=by rw[Jd]at hc1;omega
  rw[dD];refine BU (Am (Am (BV (?_))));refine AJ ?_;exact⟨_,rfl,F3 4 1 rfl (congrArg (fun x=>[CD t,Bl p,E6,[.v (.int .i64 t.next), .v (.int .i64 t.nextS),x]]) (RE EJ rfl rfl (by rw[List.length_map];exact hcap))) (.cons _ _ _ _ rfl (AM _) (.cons _ _ _ _ rfl (AM _) .nil))⟩
 rintro s rfl;refine w_ (l_ (h:=s_ (h:=e_ (A6 (?_)))));refine AA ?_;rfl
end
def KJ(r:AE×Int×Int×Int×Int):List AV:=[.v (.string r.1), .v (.int .i64 r.2.1), .v (.int .i64 r.2.2.1), .v (.int .i64 r.2.2.2.1), .v (.int .i64 r.2.2.2.2)]
theorem dO{a b:Nat}(h:a<b):Nat.blt a b=true:=by rw[Nat.blt_eq];exact h
theorem dQ{c:Cal}{j:Nat}(h:j<4):∃x,(L7 c)[j]?=some x∧(EQ c)[1+j]?=some (.v (.int .i64 x)):=by
 match j,h with
 |0,_=>exact⟨_,rfl,rfl⟩
 |1,_=>exact⟨_,rfl,rfl⟩
 |2,_=>exact⟨_,rfl,rfl⟩
 |3,_=>exact⟨_,rfl,rfl⟩
theorem dR{l:List Int}{n j:Nat}{x:Int}(hn:n≤j)(hy:l[j]?=some x)(hx:x≠0):((l.drop n).any fun x=>decide (x≠0))=true:=by
 rw[List.any_eq_true];refine⟨x,?_,by simpa using hx⟩;refine Aj (i:=j - n) ?_;rw[List.getElem?_drop,show n+(j - n)=j by omega];exact hy
theorem dS{l:List Int}{n:Nat}(h:∀i x,n≤i→l[i]?=some x→x=0):((l.drop n).any fun x=>decide (x≠0))=false:=by
 rw[List.any_eq_false];intro x hx;obtain⟨i,hi⟩:=List.mem_iff_getElem?.1 hx;rw[List.getElem?_drop]at hi;simp[h _ x (Nat.le_add_right n i) hi]
theorem V3(n:Int):0≤(Dx n).2.1∧(Dx n).2.1≤2:=by
 unfold Dx;split
 ·decide
 rename_i h;obtain⟨m,rfl⟩:=Int.eq_ofNat_of_zero_le (show 0≤n by omega);have hm:m<22:=by omega
 have key:∀m,m<22→0≤((KG[m]?).getD (⟨#[]⟩,0,0,0,0)).2.1∧((KG[m]?).getD (⟨#[]⟩,0,0,0,0)).2.1≤2:=by decide
 exact key m hm
section
theorem V4(n:Nod)(euid egid want:Int):AFn prog 164 [.agg (Ab n), .v (.int .i64 euid), .v (.int .i64 egid), .v (.int .i64 want)] (fun r=>r= .v (.bool (Eb n euid egid want))):=by
 refine enter Tryz.func164 rfl rfl rfl rfl rfl 0 rfl ?_;refine w_ (b_ (h:=a_ (h:=e_ (q_ (w_ (m_ (h:=BO (h:=m_ (h:=?_)))))))));refine As false rfl rfl (fun hb1=>?_) (fun hb1=>?_)
 ·have hc1:=bp hb1;refine A3 (h:=A3 (h:=AU (h:=e_ (BQ (h:=w_ (a_ (h:=e_ (A6 (A4 (?_))))))))));refine AA ?_
  first|(exfalso;first|contradiction|omega)|(exact vb (by first|(simp[Eb,Ek, *];done)|(simp[Eb,Ek, *];intro h;exact absurd ((by assumption:euid=n.uid).trans h) (by assumption))))
 have hc1:=bp hb1;refine m_ (h:=CS (h:=Ah (h:=e_ (?_))));refine A8 rfl (fun hb2=>?_) (fun hb2=>?_)
 ·have hc2:=bp hb2;refine w_ (a_ (h:=e_ (A6 (A4 (?_)))));refine AA ?_
  first|(exfalso;first|contradiction|omega)|(exact vb (by first|(simp[Eb,Ek, *];done)|(simp[Eb,Ek, *];intro h;exact absurd ((by assumption:euid=n.uid).trans h) (by assumption))))
 have hc2:=bp hb2;refine AN (q_ (w_ (m_ (h:=Ac (h:=e_ (?_))))));refine A8 rfl (fun hb3=>?_) (fun hb3=>?_)
 ·have hc3:=bp hb3;refine w_ (m_ (h:=EL (h:=Ac (h:=m_ (h:=?_)))));refine As false rfl rfl (fun hb4=>?_) (fun hb4=>?_)
  ·have hc4:=bp hb4;refine A3 (h:=A3 (h:=A3 (h:=AU (h:=m_ (h:=A3 (h:=A3 (h:=A3 (h:=A3 (h:=AU (h:=a_ (h:=e_ (A6 (A4 (?_))))))))))))));refine AA ?_
   first|(exfalso;first|contradiction|omega)|(exact vb (by first|(simp[Eb,Ek, *];done)|(simp[Eb,Ek, *];intro h;exact absurd ((by assumption:euid=n.uid).trans h) (by assumption))))
  have hc4:=bp hb4;refine f_ (h:=l_ (h:=Ac (h:=Ah (h:=m_ (h:=?_)))));refine As false rfl rfl (fun hb5=>?_) (fun hb5=>?_)
  ·have hc5:=bp hb5;refine A3 (h:=A3 (h:=A3 (h:=A3 (h:=AU (h:=a_ (h:=e_ (A6 (A4 (?_)))))))));refine AA ?_
   first|(exfalso;first|contradiction|omega)|(exact vb (by first|(simp[Eb,Ek, *];done)|(simp[Eb,Ek, *];intro h;exact absurd ((by assumption:euid=n.uid).trans h) (by assumption))))
  have hc5:=bp hb5;refine f_ (h:=l_ (h:=EL (h:=BX (h:=Ah (h:=a_ (h:=e_ (A6 (A4 (?_)))))))));refine AA ?_
  first|(exfalso;first|contradiction|omega)|(exact vb (by first|(simp[Eb,Ek, *];done)|(simp[Eb,Ek, *];intro h;exact absurd ((by assumption:euid=n.uid).trans h) (by assumption))))
 have hc3:=bp hb3;refine AN (w_ (f_ (h:=l_ (h:=EL (h:=a_ (h:=e_ (q_ (w_ (m_ (h:=f_ (h:=l_ (h:=Ac (h:=e_ (?_))))))))))))));refine A8 rfl (fun hb6=>?_) (fun hb6=>?_)
 ·have hc6:=bp hb6;refine AX (f_ (h:=l_ (h:=SV (h:=EL (h:=a_ (h:=e_ (w_ (m_ (h:=m_ (h:=EL (h:=m_ (h:=Ac (h:=a_ (h:=e_ (A6 (?_))))))))))))))));refine AA ?_
  first|(exfalso;first|contradiction|omega)|(exact vb (by first|(simp[Eb,Ek, *];done)|(simp[Eb,Ek, *];intro h;exact absurd ((by assumption:euid=n.uid).trans h) (by assumption))))
 have hc6:=bp hb6;refine w_ (m_ (h:=f_ (h:=l_ (h:=Ac (h:=e_ (?_))))));refine A8 rfl (fun hb7=>?_) (fun hb7=>?_)
 ·have hc7:=bp hb7;refine AX (f_ (h:=l_ (h:=SV (h:=EL (h:=a_ (h:=e_ (w_ (m_ (h:=m_ (h:=EL (h:=m_ (h:=Ac (h:=a_ (h:=e_ (A6 (?_))))))))))))))));refine AA ?_
  first|(exfalso;first|contradiction|omega)|(exact vb (by first|(simp[Eb,Ek, *];done)|(simp[Eb,Ek, *];intro h;exact absurd ((by assumption:euid=n.uid).trans h) (by assumption))))
 have hc7:=bp hb7;refine AN (w_ (m_ (h:=m_ (h:=EL (h:=m_ (h:=Ac (h:=a_ (h:=e_ (A6 (?_))))))))));refine AA ?_
 first|(exfalso;first|contradiction|omega)|(exact vb (by first|(simp[Eb,Ek, *];done)|(simp[Eb,Ek, *];intro h;exact absurd ((by assumption:euid=n.uid).trans h) (by assumption))))
theorem RH(n:Int):AFn prog 98 [.v (.int .i64 n)] (fun r=>r= .v (.bool (Mf n))):=by
 refine enter Tryz.func98 rfl rfl rfl rfl rfl 0 rfl ?_;refine w_ (a_ (h:=e_ (w_ (m_ (h:=G6 (h:=m_ (h:=?_)))))));refine As true rfl rfl (fun hb1=>?_) (fun hb1=>?_)
 ·have hc1:=bp hb1;refine m_ (h:=Lo (h:=AU (h:=a_ (h:=e_ (A6 (?_))))));refine AA ?_
  first|(exfalso;first|contradiction|omega)|(exact vb (by simp[Mf, *]))
 have hc1:=bp hb1;refine A3 (h:=A3 (h:=Ah (h:=a_ (h:=e_ (A6 (?_))))));refine AA ?_
 first|(exfalso;first|contradiction|omega)|(exact vb (by simp[Mf, *]))
theorem V5:AFn prog 130 [] (fun r=>r= .sl 5 (KG.map KJ) none):=by
 refine enter Tryz.func130 rfl rfl rfl rfl rfl 0 rfl ?_;refine w_ (a_ (h:=e_ (w_ (Aa (h:=Aa (h:=Aa (h:=Aa (h:=Aa (h:=Aa (h:=Aa (h:=Aa (h:=Aa (h:=Aa (h:=Aa (h:=Aa (h:=Aa (h:=Aa (h:=Aa (h:=Aa (h:=Aa (h:=Aa (h:=Aa (h:=Aa (h:=?_))))))))))))))))))))))));refine Aa (h:=Aa (h:=C2 (h:=a_ (h:=e_ (A6 (?_))))));refine AA ?_;rfl
theorem dT:AFn prog 129 [] (fun r=>r= .v (.int .i64 22)):=by
 refine enter Tryz.func129 rfl rfl rfl rfl rfl 0 rfl ?_;refine w_ (a_ (h:=e_ (w_ (?_))));refine A7 rfl (AK (V5) ?_);rintro r rfl;refine n_ (h:=a_ (h:=e_ (A6 (?_))));refine AA ?_;rfl
theorem dU(n:Int):AFn prog 94 [.v (.int .i64 n)] (fun r=>r= .agg (KJ (Dx n))):=by
 refine enter Tryz.func94 rfl rfl rfl rfl rfl 0 rfl ?_;refine w_ (Af (h:=e_ (q_ (w_ (m_ (h:=BO (h:=m_ (h:=?_))))))));refine As false rfl rfl (fun hb1=>?_) (fun hb1=>?_)
 ·have hc1:=bp hb1;refine A3 (h:=A3 (h:=A3 (h:=AU (h:=e_ (BQ (h:=w_ (Aa (h:=s_ (h:=e_ (A6 (A4 (?_))))))))))));refine AA ?_;rw[Dx,if_pos (by omega)];rfl
 have hc1:=bp hb1;refine m_ (h:=?_);refine Aw (AK (dT) ?_);rintro r rfl;refine G6 (h:=Ah (h:=e_ (?_)));refine A8 rfl (fun hb2=>?_) (fun hb2=>?_)
 ·have hc2:=bp hb2;refine w_ (Aa (h:=s_ (h:=e_ (A6 (A4 (?_))))));refine AA ?_;rw[Dx,if_pos (by omega)];rfl
 have hc2:=bp hb2;refine AN (w_ (?_));refine A7 rfl (AK (V5) ?_);rintro r rfl;obtain⟨m,rfl⟩:=Int.eq_ofNat_of_zero_le (show 0≤n by omega);obtain⟨row,hrow⟩:∃row,KG[m]?=some row:=⟨KG[m]'(by show m<22;omega),BM (by show m<22;omega)⟩;have hrow2:(KG.map KJ)[m]?=some (KJ row):=by rw[List.getElem?_map,hrow];rfl
 refine m_ (h:=?_);refine A7 rfl (CM (n:=m) rfl rfl rfl hrow2 ?_);refine l_ (h:=s_ (h:=e_ (A6 (?_))));refine AA ?_;rw[Dx,if_neg (by omega),Int.toNat_natCast,hrow];rfl
theorem dV(c:Cal)(hp:c.paths.length≤1000)(ha:c.args.length≤1000):AFn prog 61 [.agg (EQ c)] (fun r=>r= .v (.int .i64 (Bn c))):=by
 obtain⟨n0,hn0⟩:=Int.eq_ofNat_of_zero_le (V3 c.num).1;have hpl:(c.paths.map FY).length=c.paths.length:=List.length_map _;have hal:(c.args.map FY).length=c.args.length:=List.length_map _;have hn2:n0≤2:=by have:=(V3 c.num).2;omega
 refine enter Tryz.func61 rfl rfl rfl rfl rfl 0 rfl ?_;refine w_ (b_ (h:=a_ (h:=e_ (w_ (f_ (h:=l_ (h:=?_)))))));refine A7 rfl (AK (dU c.num) ?_);rintro r rfl;refine Af (h:=s_ (h:=e_ (q_ (w_ (f_ (h:=l_ (h:=Ac (h:=e_ (?_)))))))));refine A8 rfl (fun hb1=>?_) (fun hb1=>?_)
 ·have hc1:=bp hb1;refine w_ (a_ (h:=e_ (A6 (A4 (?_)))));refine AA ?_
  first|(exfalso;first|contradiction|omega)|(exact vi (by first|(rw[Bn,if_pos hc1];done)|(rw[Bn,if_neg hc1,if_pos hany];done)|(rw[Bn,if_neg hc1,if_neg (by rw[hany];simp),if_pos (by omega)];done)|(rw[Bn,if_neg hc1,if_neg (by rw[hany];simp),if_neg (by omega),if_pos hany2];done)|(rw[Bn,if_neg hc1,if_neg (by rw[hany];simp),if_neg (by omega),if_neg (by rw[hany2];simp),if_pos hany3];done)|(rw[Bn,if_neg hc1,if_neg (by rw[hany];simp),if_neg (by omega),if_neg (by rw[hany2];simp),if_neg (by rw[hany3];simp)];done)))
 have hc1:=bp hb1;refine AN (q_ (w_ (f_ (h:=l_ (h:=a_ (h:=e_ (Ao (?_))))))));refine Bm (fun m s=>∃j:Nat,n0≤j∧j≤4∧m=4 - j∧(∀i x,n0≤i→i<j→(L7 c)[i]?=some x→x=0)∧s=⟨look [(1, .bp 0 0),(3, .bp 1 0),(4, .v (.int .i64 (j:Int)))],⟨[EQ c,KJ (Dx c.num)],[]⟩⟩) (4 - n0) (by rw[←hn0];exact(wk 2 0)) (⟨n0,Av _,by omega,rfl,fun i x h1 h2=>by omega,rfl⟩) ?_;rintro m s ⟨j,hlo,hj,rfl,hz,rfl⟩;refine q_ (w_ (m_ (h:=BO (h:=e_ (?_)))));refine A8 rfl (fun hb2=>?_) (fun hb2=>?_)
 ·have hc2:=bp hb2;obtain⟨x,hy,hrx⟩:=dQ (c:=c) (j:=j) (by omega);refine AN (q_ (Ao (w_ (m_ (h:=f_ (h:=?_))))));refine A7 rfl (ER (len:=4) (sz:=1) (n:=j) (by kernel_rfl) rfl rfl rfl (dO (by omega)) ?_);refine A7 rfl (Bh rfl rfl (by rw[show 1+j * 1=1+j by omega];exact hrx) ?_);refine BX (h:=e_ (?_));refine A8 rfl (fun hb3=>?_) (fun hb3=>?_)
  ·have hc3:=bp hb3;have hany:(((L7 c).drop (Dx c.num).2.1.toNat).any fun x=>decide (x≠0))=true:=by rw[hn0,Int.toNat_natCast];exact dR hlo hy hc3
   refine w_ (a_ (h:=e_ (A6 (AR (A4 (A4 (AR (A4 (?_)))))))));refine AA ?_
   first|(exfalso;first|contradiction|omega)|(exact vi (by first|(rw[Bn,if_pos hc1];done)|(rw[Bn,if_neg hc1,if_pos hany];done)|(rw[Bn,if_neg hc1,if_neg (by rw[hany];simp),if_pos (by omega)];done)|(rw[Bn,if_neg hc1,if_neg (by rw[hany];simp),if_neg (by omega),if_pos hany2];done)|(rw[Bn,if_neg hc1,if_neg (by rw[hany];simp),if_neg (by omega),if_neg (by rw[hany2];simp),if_pos hany3];done)|(rw[Bn,if_neg hc1,if_neg (by rw[hany];simp),if_neg (by omega),if_neg (by rw[hany2];simp),if_neg (by rw[hany3];simp)];done)))
  have hc3:=bp hb3;have hx0:x=0:=by simpa using hc3
  refine BA (Au (t_ (AX (m_ (h:=B2 (h:=a_ (h:=AW (?_))))))));refine AJ ?_
  refine⟨_,_,?_,⟨j+1,by omega,by omega,rfl,(fun i x h1 h2 h3=>by
   by_cases e:i=j
   ·subst e;rw[hy]at h3;injection h3 with h3;rw[←h3];exact hx0
   exact hz i x h1 (by omega) h3),rfl⟩,(wk 2 0)⟩
  omega
 have hc2:=bp hb2
 have hany:(((L7 c).drop (Dx c.num).2.1.toNat).any fun x=>decide (x≠0))=false:=by
  rw[hn0,Int.toNat_natCast];refine dS fun i x h1 h2=>hz i x h1 ?_ h2;have:=(Ai.1 h2).1;have h4:(L7 c).length=4:=rfl;omega
 refine BU (Am (Am (BV (t_ (q_ (w_ (f_ (h:=l_ (h:=n_ (h:=f_ (h:=l_ (h:=BX (h:=m_ (h:=?_))))))))))))));refine As false rfl rfl (fun hb4=>?_) (fun hb4=>?_)
 ·have hc4:=bp hb4;refine A3 (h:=A3 (h:=A3 (h:=A3 (h:=A3 (h:=A3 (h:=AU (h:=m_ (h:=A3 (h:=A3 (h:=A3 (h:=A3 (h:=A3 (h:=A3 (h:=AU (h:=e_ (BQ (h:=w_ (a_ (h:=e_ (A6 (A4 (?_))))))))))))))))))))));refine AA ?_
  first|(exfalso;first|contradiction|omega)|(exact vi (by first|(rw[Bn,if_pos hc1];done)|(rw[Bn,if_neg hc1,if_pos hany];done)|(rw[Bn,if_neg hc1,if_neg (by rw[hany];simp),if_pos (by omega)];done)|(rw[Bn,if_neg hc1,if_neg (by rw[hany];simp),if_neg (by omega),if_pos hany2];done)|(rw[Bn,if_neg hc1,if_neg (by rw[hany];simp),if_neg (by omega),if_neg (by rw[hany2];simp),if_pos hany3];done)|(rw[Bn,if_neg hc1,if_neg (by rw[hany];simp),if_neg (by omega),if_neg (by rw[hany2];simp),if_neg (by rw[hany3];simp)];done)))
 have hc4:=bp hb4;refine f_ (h:=l_ (h:=n_ (h:=f_ (h:=l_ (h:=BO (h:=Ah (h:=m_ (h:=?_))))))));refine As false rfl rfl (fun hb5=>?_) (fun hb5=>?_)
 ·have hc5:=bp hb5;refine A3 (h:=A3 (h:=A3 (h:=A3 (h:=A3 (h:=A3 (h:=AU (h:=e_ (BQ (h:=w_ (a_ (h:=e_ (A6 (A4 (?_))))))))))))));refine AA ?_
  first|(exfalso;first|contradiction|omega)|(exact vi (by first|(rw[Bn,if_pos hc1];done)|(rw[Bn,if_neg hc1,if_pos hany];done)|(rw[Bn,if_neg hc1,if_neg (by rw[hany];simp),if_pos (by omega)];done)|(rw[Bn,if_neg hc1,if_neg (by rw[hany];simp),if_neg (by omega),if_pos hany2];done)|(rw[Bn,if_neg hc1,if_neg (by rw[hany];simp),if_neg (by omega),if_neg (by rw[hany2];simp),if_pos hany3];done)|(rw[Bn,if_neg hc1,if_neg (by rw[hany];simp),if_neg (by omega),if_neg (by rw[hany2];simp),if_neg (by rw[hany3];simp)];done)))
 have hc5:=bp hb5;refine f_ (h:=l_ (h:=n_ (h:=f_ (h:=l_ (h:=CS (h:=Ah (h:=e_ (?_))))))));refine A8 rfl (fun hb6=>?_) (fun hb6=>?_)
 ·have hc6:=bp hb6;refine w_ (a_ (h:=e_ (A6 (A4 (?_)))));refine AA ?_
  first|(exfalso;first|contradiction|omega)|(exact vi (by first|(rw[Bn,if_pos hc1];done)|(rw[Bn,if_neg hc1,if_pos hany];done)|(rw[Bn,if_neg hc1,if_neg (by rw[hany];simp),if_pos (by omega)];done)|(rw[Bn,if_neg hc1,if_neg (by rw[hany];simp),if_neg (by omega),if_pos hany2];done)|(rw[Bn,if_neg hc1,if_neg (by rw[hany];simp),if_neg (by omega),if_neg (by rw[hany2];simp),if_pos hany3];done)|(rw[Bn,if_neg hc1,if_neg (by rw[hany];simp),if_neg (by omega),if_neg (by rw[hany2];simp),if_neg (by rw[hany3];simp)];done)))
 have hc6:=bp hb6;refine AN (q_ (w_ (a_ (h:=e_ (Ao (?_))))));refine Bm (fun m s=>∃j:Nat,j≤c.paths.length∧m=c.paths.length - j∧(∀i y,i<j→c.paths[i]?=some y→decide (128<y.size)=false)∧s=⟨look [(1, .bp 0 0),(3, .bp 1 0),(5, .v (.int .i64 (j:Int)))],⟨[EQ c,KJ (Dx c.num)],[]⟩⟩) (c.paths.length) ((wk 2 0)) (⟨0,BJ _,rfl,fun i y hi=>by omega,rfl⟩) ?_;rintro m s ⟨j,hj,rfl,ha1,rfl⟩;refine q_ (w_ (m_ (h:=f_ (h:=l_ (h:=n_ (h:=BO (h:=e_ (?_))))))));refine A8 rfl (fun hb7=>?_) (fun hb7=>?_)
 ·have hc7:=bp hb7;obtain⟨hlt,y,hy,hrow, -⟩:=CF FY hc7;refine AN (q_ (Ao (w_ (f_ (h:=l_ (h:=m_ (h:=i_ (h:=l_ (h:=n_ (h:=CS (h:=e_ (?_))))))))))));refine A8 rfl (fun hb8=>?_) (fun hb8=>?_)
  ·have hc8:=bp hb8;have hany2:(c.paths.any fun p=>decide (128<p.size))=true:=Nj hy (by simp;omega);refine w_ (a_ (h:=e_ (A6 (AR (A4 (A4 (AR (A4 (?_)))))))));refine AA ?_
   first|(exfalso;first|contradiction|omega)|(exact vi (by first|(rw[Bn,if_pos hc1];done)|(rw[Bn,if_neg hc1,if_pos hany];done)|(rw[Bn,if_neg hc1,if_neg (by rw[hany];simp),if_pos (by omega)];done)|(rw[Bn,if_neg hc1,if_neg (by rw[hany];simp),if_neg (by omega),if_pos hany2];done)|(rw[Bn,if_neg hc1,if_neg (by rw[hany];simp),if_neg (by omega),if_neg (by rw[hany2];simp),if_pos hany3];done)|(rw[Bn,if_neg hc1,if_neg (by rw[hany];simp),if_neg (by omega),if_neg (by rw[hany2];simp),if_neg (by rw[hany3];simp)];done)))
  have hc8:=bp hb8;refine BA (Au (t_ (AX (m_ (h:=B2 (h:=a_ (h:=AW (?_))))))));refine AJ ?_;refine⟨_,_,?_,⟨j+1,by omega,rfl,EW hy ha1 (by simp;omega),rfl⟩,(wk 2 0)⟩;omega
 have hc7:=bp hb7;have e:=Cx FY hj hc7;have hany2:(c.paths.any fun p=>decide (128<p.size))=false:=Nk (by rw[←e];exact ha1);refine BU (Am (Am (BV (t_ (q_ (w_ (a_ (h:=e_ (Ao (?_))))))))));refine Bm (fun m s=>∃j:Nat,j≤c.args.length∧m=c.args.length - j∧(∀i y,i<j→c.args[i]?=some y→decide (64<y.size)=false)∧s=⟨look [(1, .bp 0 0),(3, .bp 1 0),(6, .v (.int .i64 (j:Int)))],⟨[EQ c,KJ (Dx c.num)],[]⟩⟩) (c.args.length) ((wk 2 0)) (⟨0,BJ _,rfl,fun i y hi=>by omega,rfl⟩) ?_;rintro m s ⟨j3,hj3,rfl,ha3,rfl⟩;refine q_ (w_ (m_ (h:=f_ (h:=l_ (h:=n_ (h:=BO (h:=e_ (?_))))))));refine A8 rfl (fun hb9=>?_) (fun hb9=>?_)
 ·have hc9:=bp hb9;obtain⟨hlt,y,hy,hrow, -⟩:=CF FY hc9;refine AN (q_ (Ao (w_ (f_ (h:=l_ (h:=m_ (h:=i_ (h:=l_ (h:=n_ (h:=CS (h:=e_ (?_))))))))))));refine A8 rfl (fun hb10=>?_) (fun hb10=>?_)
  ·have hc10:=bp hb10;have hany3:(c.args.any fun p=>decide (64<p.size))=true:=Nj hy (by simp;omega);refine w_ (a_ (h:=e_ (A6 (AR (A4 (A4 (AR (A4 (?_)))))))));refine AA ?_
   first|(exfalso;first|contradiction|omega)|(exact vi (by first|(rw[Bn,if_pos hc1];done)|(rw[Bn,if_neg hc1,if_pos hany];done)|(rw[Bn,if_neg hc1,if_neg (by rw[hany];simp),if_pos (by omega)];done)|(rw[Bn,if_neg hc1,if_neg (by rw[hany];simp),if_neg (by omega),if_pos hany2];done)|(rw[Bn,if_neg hc1,if_neg (by rw[hany];simp),if_neg (by omega),if_neg (by rw[hany2];simp),if_pos hany3];done)|(rw[Bn,if_neg hc1,if_neg (by rw[hany];simp),if_neg (by omega),if_neg (by rw[hany2];simp),if_neg (by rw[hany3];simp)];done)))
  have hc10:=bp hb10;refine BA (Au (t_ (AX (m_ (h:=B2 (h:=a_ (h:=AW (?_))))))));refine AJ ?_;refine⟨_,_,?_,⟨j3+1,by omega,rfl,EW hy ha3 (by simp;omega),rfl⟩,(wk 2 0)⟩;omega
 have hc9:=bp hb9;have e3:=Cx FY hj3 hc9;have hany3:(c.args.any fun p=>decide (64<p.size))=false:=Nk (by rw[←e3];exact ha3);refine BU (Am (Am (BV (t_ (w_ (a_ (h:=e_ (A6 (?_)))))))));refine AA ?_
 first|(exfalso;first|contradiction|omega)|(exact vi (by first|(rw[Bn,if_pos hc1];done)|(rw[Bn,if_neg hc1,if_pos hany];done)|(rw[Bn,if_neg hc1,if_neg (by rw[hany];simp),if_pos (by omega)];done)|(rw[Bn,if_neg hc1,if_neg (by rw[hany];simp),if_neg (by omega),if_pos hany2];done)|(rw[Bn,if_neg hc1,if_neg (by rw[hany];simp),if_neg (by omega),if_neg (by rw[hany2];simp),if_pos hany3];done)|(rw[Bn,if_neg hc1,if_neg (by rw[hany];simp),if_neg (by omega),if_neg (by rw[hany2];simp),if_neg (by rw[hany3];simp)];done)))
theorem dW(c:Cal):AFn prog 95 [.agg (EQ c)] (fun r=>r= .sl 1 ((Ce c).map CB) none):=by
 refine enter Tryz.func95 rfl rfl rfl rfl rfl 0 rfl ?_;refine w_ (b_ (h:=a_ (h:=e_ (q_ (w_ (f_ (h:=l_ (h:=e_ (Ao (w_ (Ac (h:=a_ (h:=e_ (?_))))))))))))));refine A8 rfl (fun hb1=>?_) (fun hb1=>?_)
 ·have hc1:=bp hb1;refine w_ (C2 (h:=a_ (h:=e_ (A6 (AR (A4 (?_)))))));refine AA ?_
  first|(exfalso;first|contradiction|omega)|(simp only[Ce,C1];first|(simp[*,CB];done)|(simp[*,CB];rfl))
 have hc1:=bp hb1;refine w_ (Ac (h:=a_ (h:=e_ (?_))));refine A8 rfl (fun hb2=>?_) (fun hb2=>?_)
 ·have hc2:=bp hb2;refine w_ (a_ (h:=e_ (q_ (w_ (f_ (h:=?_))))));refine A7 rfl (ER (len:=4) (sz:=1) (n:=0) (by kernel_rfl) rfl rfl rfl rfl ?_);refine l_ (h:=EL (h:=BX (h:=e_ (?_))));refine A8 rfl (fun hb3=>?_) (fun hb3=>?_)
  ·have hc3:=bp hb3;refine AX (m_ (h:=B2 (h:=a_ (h:=e_ (q_ (w_ (f_ (h:=?_))))))));refine A7 rfl (ER (len:=4) (sz:=1) (n:=0) (by kernel_rfl) rfl rfl rfl rfl ?_);refine l_ (h:=EL (h:=BX (h:=e_ (?_))));refine A8 rfl (fun hb4=>?_) (fun hb4=>?_)
   ·have hc4:=bp hb4;refine AX (m_ (h:=B2 (h:=a_ (h:=e_ (w_ (m_ (h:=C2 (h:=a_ (h:=e_ (A6 (AR (A4 (?_)))))))))))));refine AA ?_
    first|(exfalso;first|contradiction|omega)|(simp only[Ce,C1];first|(simp[*,CB];done)|(simp[*,CB];rfl))
   have hc4:=bp hb4;refine AN (w_ (m_ (h:=C2 (h:=a_ (h:=e_ (A6 (AR (A4 (?_)))))))));refine AA ?_
   first|(exfalso;first|contradiction|omega)|(simp only[Ce,C1];first|(simp[*,CB];done)|(simp[*,CB];rfl))
  have hc3:=bp hb3;refine AN (q_ (w_ (f_ (h:=?_))));refine A7 rfl (ER (len:=4) (sz:=1) (n:=0) (by kernel_rfl) rfl rfl rfl rfl ?_);refine l_ (h:=EL (h:=BX (h:=e_ (?_))));refine A8 rfl (fun hb5=>?_) (fun hb5=>?_)
  ·have hc5:=bp hb5;refine AX (m_ (h:=B2 (h:=a_ (h:=e_ (w_ (m_ (h:=C2 (h:=a_ (h:=e_ (A6 (AR (A4 (?_)))))))))))));refine AA ?_
   first|(exfalso;first|contradiction|omega)|(simp only[Ce,C1];first|(simp[*,CB];done)|(simp[*,CB];rfl))
  have hc5:=bp hb5;refine AN (w_ (m_ (h:=C2 (h:=a_ (h:=e_ (A6 (AR (A4 (?_)))))))));refine AA ?_
  first|(exfalso;first|contradiction|omega)|(simp only[Ce,C1];first|(simp[*,CB];done)|(simp[*,CB];rfl))
 have hc2:=bp hb2;refine w_ (Ac (h:=a_ (h:=e_ (?_))));refine A8 rfl (fun hb6=>?_) (fun hb6=>?_)
 ·have hc6:=bp hb6;refine w_ (C2 (h:=a_ (h:=e_ (A6 (AR (A4 (?_)))))));refine AA ?_
  first|(exfalso;first|contradiction|omega)|(simp only[Ce,C1];first|(simp[*,CB];done)|(simp[*,CB];rfl))
 have hc6:=bp hb6;refine w_ (Ac (h:=a_ (h:=e_ (?_))));refine A8 rfl (fun hb7=>?_) (fun hb7=>?_)
 ·have hc7:=bp hb7;refine w_ (C2 (h:=a_ (h:=e_ (A6 (AR (A4 (?_)))))));refine AA ?_
  first|(exfalso;first|contradiction|omega)|(simp only[Ce,C1];first|(simp[*,CB];done)|(simp[*,CB];rfl))
 have hc7:=bp hb7;refine q_ (w_ (Ac (h:=a_ (h:=e_ (?_)))));refine A8 rfl (fun hb8=>?_) (fun hb8=>?_)
 ·have hc8:=bp hb8;refine AN (BQ (h:=w_ (C2 (h:=a_ (h:=e_ (A6 (AR (A4 (?_)))))))));refine AA ?_
  first|(exfalso;first|contradiction|omega)|(simp only[Ce,C1];first|(simp[*,CB];done)|(simp[*,CB];rfl))
 have hc8:=bp hb8;refine w_ (Ac (h:=a_ (h:=e_ (?_))));refine A8 rfl (fun hb9=>?_) (fun hb9=>?_)
 ·have hc9:=bp hb9;refine AN (BQ (h:=w_ (C2 (h:=a_ (h:=e_ (A6 (AR (A4 (?_)))))))));refine AA ?_
  first|(exfalso;first|contradiction|omega)|(simp only[Ce,C1];first|(simp[*,CB];done)|(simp[*,CB];rfl))
 have hc9:=bp hb9;refine AX (Ac (h:=a_ (h:=e_ (?_))));refine A8 rfl (fun hb10=>?_) (fun hb10=>?_)
 ·have hc10:=bp hb10;refine w_ (C2 (h:=a_ (h:=e_ (A6 (AR (A4 (?_)))))));refine AA ?_
  first|(exfalso;first|contradiction|omega)|(simp only[Ce,C1];first|(simp[*,CB];done)|(simp[*,CB];rfl))
 have hc10:=bp hb10;refine w_ (Ac (h:=a_ (h:=e_ (?_))));refine A8 rfl (fun hb11=>?_) (fun hb11=>?_)
 ·have hc11:=bp hb11;refine w_ (C2 (h:=a_ (h:=e_ (A6 (AR (A4 (?_)))))));refine AA ?_
  first|(exfalso;first|contradiction|omega)|(simp only[Ce,C1];first|(simp[*,CB];done)|(simp[*,CB];rfl))
 have hc11:=bp hb11;refine BA (Au (t_ (w_ (C2 (h:=a_ (h:=e_ (A6 (?_))))))));refine AA ?_
 first|(exfalso;first|contradiction|omega)|(simp only[Ce,C1];first|(simp[*,CB];done)|(simp[*,CB];rfl))
theorem dY(c:Cal):AFn prog 96 [.agg (EQ c)] (fun r=>r= .v (.bool (Cf c))):=by
 refine enter Tryz.func96 rfl rfl rfl rfl rfl 0 rfl ?_;refine w_ (b_ (h:=a_ (h:=e_ (q_ (w_ (f_ (h:=l_ (h:=e_ (Ao (w_ (Ac (h:=a_ (h:=e_ (?_))))))))))))));refine A8 rfl (fun hb1=>?_) (fun hb1=>?_)
 ·have hc1:=bp hb1;refine w_ (f_ (h:=?_));refine A7 rfl (ER (len:=4) (sz:=1) (n:=0) (by kernel_rfl) rfl rfl rfl rfl ?_);refine l_ (h:=EL (h:=Ac (h:=a_ (h:=e_ (A6 (AR (A4 (?_))))))));refine AA ?_
  first|(exfalso;first|contradiction|omega)|(exact vb (by simp[Cf, *]))
 have hc1:=bp hb1;refine q_ (w_ (Ac (h:=a_ (h:=e_ (?_)))));refine A8 rfl (fun hb2=>?_) (fun hb2=>?_)
 ·have hc2:=bp hb2;refine AN (BQ (h:=w_ (a_ (h:=e_ (A6 (AR (A4 (?_))))))));refine AA ?_
  first|(exfalso;first|contradiction|omega)|(exact vb (by simp[Cf, *]))
 have hc2:=bp hb2;refine w_ (Ac (h:=a_ (h:=e_ (?_))));refine A8 rfl (fun hb3=>?_) (fun hb3=>?_)
 ·have hc3:=bp hb3;refine AN (BQ (h:=w_ (a_ (h:=e_ (A6 (AR (A4 (?_))))))));refine AA ?_
  first|(exfalso;first|contradiction|omega)|(exact vb (by simp[Cf, *]))
 have hc3:=bp hb3;refine w_ (Ac (h:=a_ (h:=e_ (?_))));refine A8 rfl (fun hb4=>?_) (fun hb4=>?_)
 ·have hc4:=bp hb4;refine AN (BQ (h:=w_ (a_ (h:=e_ (A6 (AR (A4 (?_))))))));refine AA ?_
  first|(exfalso;first|contradiction|omega)|(exact vb (by simp[Cf, *]))
 have hc4:=bp hb4;refine w_ (Ac (h:=a_ (h:=e_ (?_))));refine A8 rfl (fun hb5=>?_) (fun hb5=>?_)
 ·have hc5:=bp hb5;refine AN (BQ (h:=w_ (a_ (h:=e_ (A6 (AR (A4 (?_))))))));refine AA ?_
  first|(exfalso;first|contradiction|omega)|(exact vb (by simp[Cf, *]))
 have hc5:=bp hb5;refine w_ (Ac (h:=a_ (h:=e_ (?_))));refine A8 rfl (fun hb6=>?_) (fun hb6=>?_)
 ·have hc6:=bp hb6;refine AN (BQ (h:=w_ (a_ (h:=e_ (A6 (AR (A4 (?_))))))));refine AA ?_
  first|(exfalso;first|contradiction|omega)|(exact vb (by simp[Cf, *]))
 have hc6:=bp hb6;refine AX (Ac (h:=a_ (h:=e_ (?_))));refine A8 rfl (fun hb7=>?_) (fun hb7=>?_)
 ·have hc7:=bp hb7;refine w_ (a_ (h:=e_ (A6 (AR (A4 (?_))))));refine AA ?_
  first|(exfalso;first|contradiction|omega)|(exact vb (by simp[Cf, *]))
 have hc7:=bp hb7;refine BA (Au (t_ (w_ (a_ (h:=e_ (A6 (?_)))))));refine AA ?_
 first|(exfalso;first|contradiction|omega)|(exact vb (by simp[Cf, *]))
end
theorem dZ{s:Spc}(hs:SpcB s)(hv:FlsV s.files)(h0:0<s.files.length):AFn prog 13 [.agg (Ar s)] (fun r=>r= .v (.bool (DR true s))):=
 (ZS s hs hv.t).mono fun r hr=>by rw[hr,b5 hv h0]
section
theorem eB(s:Spc)(hs:SpcB s):AFn prog 55 [.agg (Ar s)] (fun r=>r= .agg (Ar s)):=by
 have hfew:=hs.few;refine enter Tryz.func55 rfl rfl rfl rfl rfl 0 rfl ?_;refine w_ (b_ (h:=Af (h:=e_ (q_ (Bi ([(0,Ar s)]) 8 (h:=AQ 0 (h:=?_)))))))
 first|refine AF 1 (h:=?_)|refine B4 1 rfl (fun _ hS=>Cp (row:=Ar s) rfl (kb hS rfl) (B6 rfl) rfl ⟨rfl,rfl⟩) ?_
 refine AQ 3 (h:=?_)
 first|refine AF 4 (h:=?_)|refine B4 4 rfl (fun _ hS=>Cp (row:=Ar s) rfl (kb hS rfl) (B6 rfl) rfl ⟨rfl,rfl⟩) ?_
 refine c_ 2 rfl (AK (QJ s.files hs.files) ?_);rintro r rfl;refine o_ (h:=?_)
 first|refine c_ 5 rfl (Eo rfl rfl rfl (by simp;omega) (by repeat constructor) ?_)|refine c_ 5 rfl (Ep rfl rfl (by simp;omega) (by repeat constructor) ?_)
 refine o_ (h:=Fh 6 (h:=?_));refine B8 7 rfl (B3 rfl rfl rfl rfl rfl rfl (by repeat constructor) (by repeat constructor) ?_);refine o_ (h:=z_ (h:=t_ (A6 (?_))));refine B0 (r:= .agg (Ar s)) none (h5:=?_) (h6:=⟨rfl,rfl,rfl⟩);exact LeA.agg (LeL.cons (AM _) (LeL.cons (LeA.tok _ _ _) LeL.nil))
end
end Go.Proofs.YtobclmbkdhbnpaaGreatDoor
namespace Go.Proofs.YtobclmbkdhbnpaaGreatDoor
section
variable {s:Spc}(hv:SpcV s)
include hv
def Fs(s:Spc)(a:A9):Prop:=(Bk s a).2=true∧∀i,0<i→Fp s (BT s (Bd s.files) a) i=true
theorem OO{a:A9}(h:Ag s.files a=true)(hm:C4 s a.1=true):(Bk s a).2=true:=by rw[OC hv h hm]
omit hv in
theorem V6(a:A9)(L:List A9)(i:Nat):Fp s (a::L) (i+2)=Fp s L (i+1):=by
 unfold Fp;have h1:(a::L)[i+2]?=L[i+1]?:=List.getElem?_cons_succ;have h2:(a::L)[i+2 - 1]?=L[i+1 - 1]?:=List.getElem?_cons_succ;rw[h1,h2];simp
omit hv in
theorem V7(a b:A9)(L:List A9):Fp s (a::b::L) 1=true↔∀dev,C3 s b=some dev→a=(dev,1):=by
 unfold Fp;simp only[List.getElem?_cons_succ,List.getElem?_cons_zero,Nat.sub_self]
 cases C3 s b with
 |none=>simp
 |some dev=>simp
omit hv in
theorem V8{L:List A9}{i:Nat}(h:L.length≤i):Fp s L i=true:=by
 unfold Fp;rw[List.getElem?_eq_none h]
theorem Mi(a:A9):ED s a=true↔Fs s a∧C3 s a=none:=by
 rw[aO hv,Bool.and_eq_true,List.all_eq_true];constructor
 ·rintro⟨h1,h2⟩;obtain⟨t,ht⟩:=OA hv (L3 h1).1;refine⟨⟨h1,fun i hi=>?_⟩,?_⟩
  ·by_cases hl:i<(BT s (Bd s.files) a).length
   ·exact h2 i (List.mem_range.2 hl)
   exact V8 (by omega)
  have h3:=h2 0 (List.mem_range.2 (by rw[ht];simp));rw[ht]at h3;unfold Fp at h3;simp only[List.getElem?_cons_zero]at h3
  cases hc:C3 s a with
  |none=>rfl
  |some dev=>rw[hc]at h3;simp at h3
 rintro⟨⟨h1,h2⟩,hc⟩;refine⟨h1,fun i _=>?_⟩;obtain⟨t,ht⟩:=OA hv (L3 h1).1;by_cases h0:i=0
 ·subst h0;rw[ht];unfold Fp;simp only[List.getElem?_cons_zero,hc]
 exact h2 i (by omega)
theorem OP{a b:A9}(h:Ag s.files a=true)(hm:C4 s a.1=true)(hs:Cm s a=some b):Fs s a↔Fs s b∧∀dev,C3 s b=some dev→a=(dev,1):=by
 have hb:=MZ hv h hs;have hbm:=Qg hv hm hs;obtain⟨t,ht⟩:=OA hv hb;have hc:BT s (Bd s.files) a=a::BT s (Bd s.files) b:=by rw[JY hv h,hs]
 unfold Fs;rw[hc];constructor
 ·rintro⟨_,h2⟩;refine⟨⟨OO hv hb hbm,fun i hi=>?_⟩,?_⟩
  ·obtain⟨j,rfl⟩:∃j,i=j+1:=⟨i - 1,by omega⟩;rw[←V6 a];exact h2 _ (by omega)
  have h3:=h2 1 (by omega);rw[ht]at h3;exact(V7 a b t).1 h3
 rintro⟨⟨_,h2⟩,h3⟩;refine⟨OO hv h hm,fun i hi=>?_⟩;by_cases h1:i=1
 ·subst h1;rw[ht];exact(V7 a b t).2 h3
 obtain⟨j,rfl⟩:∃j,i=j+2:=⟨i - 2,by omega⟩;rw[V6];exact h2 _ (by omega)
theorem RJ(h:Ag s.files (0,1)=true):Fs s (0,1):=by
 have hs:Cm s (0,1)=none:=by unfold Cm;rw[if_neg (by simp)];exact Qh hv
 refine⟨OO hv h (by unfold C4;simp),fun i hi=>?_⟩;rw[JY hv h,hs];exact V8 (by simp;omega)
theorem V9{a:A9}{dev:Int}(hc:C3 s a=some dev):Cm s (dev,1)=some a∧Ag s.files (dev,1)=true∧C4 s dev=true∧dev≠0∧Ag s.files a=true:=by
 obtain⟨i,hi⟩:=OD hc;have hm:=hv.mnt i _ hi;have h1:=hm.dev1;have h2:=hm.dev2;simp only at h1 h2
 have hs:Cm s (dev,1)=some a:=by
  unfold Cm;rw[if_neg (by simp)];exact UQ hv hi
 exact⟨hs,R5 hv (by omega) h2,OB (s:=s) (m:=(dev,a)) (Aj hi),by omega,hm.dir⟩
theorem eC{a:A9}(h:Fs s a):Fs s (GP s a):=by
 unfold GP
 cases hc:C3 s a with
 |none=>exact h
 |some dev=>
   obtain⟨h1,h2,h3,_⟩:=V9 hv hc;refine(OP hv (a:=(dev,1)) h2 h3 h1).2 ⟨h,fun d hd=>?_⟩;rw[hc]at hd;injection hd with hd;rw[hd]
theorem VA:∀(n:Nat) (a:A9),Fs s a→Fs s (Ci s n a)
 |0,_,h=>h
 |n+1,a,h=>by rw[Ci];exact VA n _ (eC hv h)
theorem Mj{a:A9}(h:Fs s a):ED s (Ci s s.mounts.length a)=true:=(Mi hv _).2 ⟨VA hv _ a h,UO hv _ a fun i m _ _=>by omega⟩
theorem eD:∀(k:Nat) (a:A9),Fs s a→Fs s (DY s k a):=by
 intro k
 induction k with
 |zero=>intro a h;exact h
 |succ k ih=>
   intro a h;obtain⟨hd,hm⟩:=L3 h.1;by_cases h1:a.2=1
   ·cases ho:Bu s a.1 with
    |none=>rw[R4 k hd h1 (by rw[ho];rfl)];exact h
    |some on=>
      have hs:Cm s a=some on:=by unfold Cm;rw[if_neg (by simpa using h1)];exact ho
      rw[Qz k hd h1 (by rw[ho];rfl),ho];exact ih on ((OP hv hd hm hs).1 h).1
   have hs:Cm s a=some (a.1,(AZ s.files a).parent):=if_pos h1;rw[Qy k hd h1];exact((OP hv hd hm hs).1 h).1
omit hv in
theorem eG{d:Dvc}(hd:VD d){a b m:Nod}(ha:a∈d.nodes)(hb:b∈d.nodes)(hm:m∈d.nodes)(h1:m.ino≠1)(hk:m.kind=2)(hea:∃e∈a.entries,e.2=m.ino)(heb:∃e∈b.entries,e.2=m.ino):a=b:=by
 have hc:=hd.one m hm h1 hk;obtain⟨A,B,hAB,_,_⟩:=TH hd.asc ha;rw[hAB,Q3,Kl]at hc;have h2:=TG.2 hea;rw[hAB]at hb;rcases List.mem_append.1 hb with hb|hb
 ·have:=MB.2 ⟨b,hb,heb⟩;omega
 rcases List.mem_cons.1 hb with hb|hb
 ·exact hb.symm
 have:=MB.2 ⟨b,hb,heb⟩;omega
theorem OQ{a b:A9}{p:AE}(hl:AD s.files a p=(b,0)):Ag s.files a=true∧D4 p=true∧b.1=a.1∧b.2≠1∧Cc s.files b=true∧(Ag s.files b=true→Cm s b=some a):=by
 unfold AD at hl
 cases hn:Bo s.files a with
 |none=>rw[hn]at hl;simp at hl
 |some n=>
   rw[hn]at hl;simp only at hl;by_cases hk:n.kind=2
   ·rw[if_pos hk]at hl;have hdir:Ag s.files a=true:=(Hr hn).2 hk
    cases hf:n.entries.find? fun e:B1=>decide (e.1=p)with
    |none=>rw[hf]at hl;simp at hl
    |some e=>
      rw[hf]at hl;simp only[Prod.mk.injEq,and_true]at hl;subst hl;have he:=List.mem_of_find?_eq_some hf;have hep:=List.find?_some hf;simp only[decide_eq_true_eq]at hep;obtain⟨q,d,n',e1,e2,e3,e4,e5,e6⟩:=JW (f:=s.files) (a:=a) (by rw[hdir];simp)
      have hn':n'=n:=by
       have:AZ s.files a=n:=by unfold AZ;rw[hn];rfl
       rw[←this];exact e5.symm
      subst hn';have hd:=hv.files.vd d (Aj e2);obtain⟨h1,h2,m,hm,hme⟩:=hd.ent n' e3 e he;have hnb:Bo s.files (a.1,e.2)=some m:=by rw[e1];exact Qf hv e2 hm hme
      refine⟨hdir,by rw[←hep];exact h1,rfl,h2,by unfold Cc;rw[hnb];rfl,fun hdb=>?_⟩;have hmk:m.kind=2:=(Hr hnb).1 hdb;have hm1:m.ino≠1:=by rw[hme];exact h2
      obtain⟨p',hp',hpi,hpe⟩:=hd.par m hm hm1 hmk;have:=eG hd e3 hp' hm hm1 hmk ⟨e,he,hme.symm⟩ hpe;subst this;unfold Cm;rw[if_pos h2];unfold AZ;rw[hnb];simp only[Option.getD_some];rw[←hpi,e4]
   rw[if_neg hk]at hl;simp at hl
theorem eH{a b:A9}{p:AE}(hl:AD s.files a p=(b,0))(ha:ED s a=true)(hb:Ag s.files b=true):Fs s b:=by
 obtain⟨h1,_,h3,h4,_,h6⟩:=OQ hv hl;obtain⟨h7,h8⟩:=(Mi hv a).1 ha;refine(OP hv hb (by rw[h3];exact(L3 h7.1).2) (h6 hb)).2 ⟨h7,fun dev hd=>?_⟩;rw[h8]at hd;cases hd
omit hv in
theorem eJ(hv:SpcV s){a:A9}(h:Ag s.files a=false)(n:Nat):Ci s n a=a:=by
 refine Ni ?_ n
 cases hc:C3 s a with
 |none=>rfl
 |some d=>rw[(V9 hv hc).2.2.2.2]at h;cases h
theorem RK:Ag s.files (0,0)=false:=by
 cases hz:Ag s.files (0,0)with
 |false=>rfl
 |true=>
   obtain⟨q,d,m,e1,e2,e3,e4,e5,e6⟩:=JW (f:=s.files) (a:=(0,0)) (by rw[hz];simp);have:=(hv.files.vd d (Aj e2)).pos e3;simp only at e4;omega
theorem VB{fl:Bool}{p:AE}{ps:List AE}{a:A9}{lk:Nat}{τ:Lk}(h0:Ag s.files (0,1)=true)(ha:Ag s.files a=true→ED s a=true)(h:Bv s fl p ps a lk= .inr τ):Ag s.files τ.file=true→ED s τ.file=true:=by
 unfold Bv at h;split at h
 ·cases h
 rename_i hd;have hd:Ag s.files a=true:=by simpa using hd
 have hva:=ha hd;have hr:ED s (D9 s)=true:=Mj hv (RJ hv h0);split at h
 ·cases h
 split at h
 ·injection h with h;subst h;exact ha
 split at h
 ·injection h with h;subst h;exact fun _=>Mj hv (eD hv _ a ((Mi hv a).1 hva).1)
 split at h
 ·split at h
  ·cases h
  injection h with h;subst h;intro hz;rw[RK hv]at hz;cases hz
 rename_i hl;have hl:(AD s.files a p).2=0:=by simpa using hl
 split at h
 ·split at h
  ·cases h
  injection h with h;subst h;simp only;split
  ·exact fun _=>hr
  exact ha
 injection h with h;subst h;simp only;intro hz
 cases hb:Ag s.files (AD s.files a p).1 with
 |false=>rw[eJ hv hb]at hz;rw[hb]at hz;cases hz
 |true=>exact Mj hv (eH hv (p:=p) (by rw[←hl]) hva hb)
theorem eK(h0:Ag s.files (0,1)=true){fl:Bool}:∀(k:Nat) (σ:Lk),(Ag s.files σ.file=true→ED s σ.file=true)→(De s fl k σ).1=0→Ag s.files (De s fl k σ).2.file=true→ED s (De s fl k σ).2.file=true:=by
 intro k
 induction k with
 |zero=>intro σ h _ hd;exact h hd
 |succ k ih=>
   intro σ h;unfold De
   cases σ.ps with
   |nil=>exact fun _ hd=>h hd
   |cons p ps=>
     simp only
     cases hs:Bv s fl p ps σ.file σ.links with
     |inl e=>
       intro _ hd;rw[show(e,Me).2.file=((0,0):A9) from rfl,RK hv]at hd;cases hd
     |inr τ=>exact ih τ (VB hv h0 h hs)
end
end Go.Proofs.YtobclmbkdhbnpaaGreatDoor
namespace Go.Proofs.YtobclmbkdhbnpaaGreatDoor
theorem eL{p:AE}(h:D4 p=true):p≠OL∧p≠Md∧p.size≤12∧p≠⟨#[]⟩∧(47:UInt8)∉p.data.toList:=by
 rw[O8]at h;obtain⟨h1,h2,h3,h4,h5,h6⟩:=MQ.1 h;refine⟨?_,?_,by rw[Lib.size_eq];exact h2,?_,h6⟩<;>(intro e;subst e;first|exact h3 rfl|exact h4 rfl|exact h1 rfl)
theorem eM{p:AE}(h:p.data.toList=[]):p=⟨#[]⟩:=Mc h
theorem eN{l:Bs}(h1:l≠[])(h2:l.head?≠some 47):By l≠[]:=by
 intro h;have h3:D6 (C8 l)=47::l:=QQ l
 cases hs:C8 l with
 |nil=>exact O3 l hs
 |cons p ps=>
   rw[hs,GC]at h3;injection h3 with _ h3
   have h4:p=[]:=by
    unfold By at h;rw[hs,List.filter_cons]at h;split at h
    ·cases h
    rename_i hne
    simpa[ne_]using hne
   rw[h4,List.nil_append]at h3
   cases ps with
   |nil=>exact h1 h3.symm
   |cons q ps=>
     rw[GC]at h3;rw[←h3]at h2;simp at h2
theorem eO{p:AE}(h1:p≠⟨#[]⟩)(h2:Ck p=false):Cd p≠[]:=by
 intro h;unfold Cd at h;rw[List.map_eq_nil_iff]at h;refine eN (fun e=>h1 (eM e)) ?_ h;unfold Ck at h2
 simpa using h2
end Go.Proofs.YtobclmbkdhbnpaaGreatDoor
namespace Go.Proofs.YtobclmbkdhbnpaaGreatDoor
section
variable {s:Spc}(hv:SpcV s)
include hv
omit hv in
theorem VC{fl:Bool}{p:AE}{ps:List AE}{a:A9}{lk:Nat}{e:Int}(h:Bv s fl p ps a lk= .inl e):e≠0:=by
 unfold Bv at h
 repeat' split at h
 all_goals first|(cases h;done)|(injection h with h;subst h;decide)
def OR(s:Spc)(τ:Lk):Prop:=(τ.name=⟨#[]⟩∧τ.dir=τ.file∧τ.ex=true)∨(D4 τ.name=true∧Ag s.files τ.dir=true∧∀lk,Bv s false τ.name [] τ.dir lk= .inr ⟨[],τ.dir,τ.name,τ.file,τ.ex,lk⟩)
theorem eQ{fl:Bool}{p:AE}{ps:List AE}{a:A9}{lk:Nat}{τ:Lk}(h:Bv s fl p ps a lk= .inr τ):OR s τ:=by
 unfold Bv at h;split at h
 ·cases h
 rename_i c1;split at h
 ·cases h
 rename_i c2;split at h
 ·injection h with h;subst h;exact .inl ⟨rfl,rfl,rfl⟩
 rename_i c3;split at h
 ·injection h with h;subst h;exact .inl ⟨rfl,rfl,rfl⟩
 rename_i c4;split at h
 ·rename_i c5;split at h
  ·cases h
  rename_i c6;injection h with h;subst h;simp only[not_or,Decidable.not_not,Bool.not_eq_false]at c6;refine .inr ⟨c6.2,by simpa using c1,fun lk=>?_⟩;unfold Bv;simp only[c1,c2,c3,c4,c5,c6.2,if_false,if_true,ne_eq,not_true_eq_false,or_self,Bool.true_eq_false,not_false_eq_true]
 rename_i c5;split at h
 ·split at h
  ·cases h
  injection h with h;subst h;exact .inl ⟨rfl,rfl,rfl⟩
 rename_i c6;injection h with h;subst h;have hl:AD s.files a p=((AD s.files a p).1,0):=Prod.ext rfl (by simpa using c5);refine .inr ⟨(OQ hv hl).2.1,by simpa using c1,fun lk=>?_⟩;unfold Bv;simp only[c1,c2,c3,c4,c5,if_false,ne_eq,not_true_eq_false,or_self,Bool.false_eq_true,and_false,Bool.true_eq_false,reduceCtorEq]
theorem eR{fl:Bool}:∀(k:Nat) (σ:Lk),OR s σ→(De s fl k σ).1=0→OR s (De s fl k σ).2:=by
 intro k
 induction k with
 |zero=>intro σ h _;exact h
 |succ k ih=>
   intro σ h;unfold De
   cases σ.ps with
   |nil=>exact fun _=>h
   |cons p ps=>
     simp only
     cases hs:Bv s fl p ps σ.file σ.links with
     |inl e=>exact fun c=>absurd c (VC hs)
     |inr τ=>exact ih τ (eQ hv hs)
theorem eS{st:A9}{p:AE}{fl:Bool}{x:Fnd}(h:Bb s st p fl=(x,0)):∃τ,OR s τ∧x=Fq s (BF p) τ:=by
 unfold Bb at h;generalize (if Ck p=true then D9 s else st)=d at h;split at h
 ·cases h
 split at h
 ·cases h
 split at h
 ·cases h
 split at h
 ·rename_i c;injection h with h1 h2;exact absurd h2 c
 rename_i c;split at h
 ·cases h
 injection h with h1 h2;exact⟨_,eR hv _ _ (.inl ⟨rfl,rfl,rfl⟩) (Decidable.not_not.1 c),h1.symm⟩
end
end Go.Proofs.YtobclmbkdhbnpaaGreatDoor
namespace Go.Proofs.YtobclmbkdhbnpaaGreatDoor
abbrev zz:AE:=⟨#[122,122]⟩
end Go.Proofs.YtobclmbkdhbnpaaGreatDoor
namespace Go.Proofs.YtobclmbkdhbnpaaGreatDoor
structure Wk where
 ps:List AE
 at_:A9
 dir:A9
 name:AE
 missing:Bool
 links:Nat
def E7(s:Spc)(fl:Bool)(p:AE)(ps:List AE)(w:Wk):Int ⊕ Wk:=
 if Ag s.files w.at_=false then .inl 20
 else if 12<p.size then .inl 36
 else if p=Md then .inr ⟨ps,Ci s s.mounts.length (DY s (s.mounts.length+1) w.at_),(0,0),⟨#[]⟩,w.missing,w.links⟩
 else if p=OL then .inr ⟨ps,w.at_,(0,0),⟨#[]⟩,w.missing,w.links⟩
 else if D4 p=false then .inl 2
 else if(AD s.files w.at_ p).2≠0 then(if ps≠[]then .inl 2 else .inr ⟨ps,w.at_,w.at_,p,true,w.links⟩)
 else if(AZ s.files (AD s.files w.at_ p).1).kind=3∧(ps≠[]∨fl=true)then
  (if w.links=8 then .inl 40 else
    .inr ⟨Cd (AZ s.files (AD s.files w.at_ p).1).target++ps,if Ck (AZ s.files (AD s.files w.at_ p).1).target=true then D9 s else w.at_,if Ck (AZ s.files (AD s.files w.at_ p).1).target=true then(0,0)else w.dir,if Ck (AZ s.files (AD s.files w.at_ p).1).target=true then⟨#[]⟩else w.name,w.missing,w.links+1⟩)
 else .inr ⟨ps,Ci s s.mounts.length (AD s.files w.at_ p).1,w.at_,p,w.missing,w.links⟩
def Ft(s:Spc)(sl:Bool)(w:Wk):Fnd:=
 if w.name=⟨#[]⟩then⟨w.at_,⟨#[]⟩,w.at_, !w.missing,sl,(Bk s w.at_).1⟩
 else⟨w.dir,w.name,if w.missing=true then(0,0)else w.at_, !w.missing,sl,if(Bk s w.dir).2=true then D7 (Bk s w.dir).1 w.name else⟨#[]⟩⟩
structure Sim(w:Wk)(σ:Lk):Prop where
 ps:w.ps=σ.ps
 links:w.links=σ.links
 ex:σ.ex= !w.missing
 here:w.missing=false→w.at_=σ.file
 gone:w.missing=true→σ.file=(0,0)∧w.ps=[]∧w.dir=σ.dir∧w.name=σ.name∧w.name≠⟨#[]⟩
 last:w.ps=[]→w.missing=false→(w.name=⟨#[]⟩→σ.name=⟨#[]⟩∧σ.dir=σ.file)∧(w.name≠⟨#[]⟩→w.dir=σ.dir∧w.name=σ.name)
section
variable {s:Spc}(hv:SpcV s)
include hv
theorem eT{a:A9}{p:AE}(h:D4 p=false):(AD s.files a p).2≠0:=by
 intro e;have:=(OQ hv (a:=a) (p:=p) (b:=(AD s.files a p).1) (Prod.ext rfl e)).2.1;rw[this]at h;cases h
theorem eU{a b:A9}{p:AE}(hl:AD s.files a p=(b,0))(hk:(AZ s.files b).kind=3):(AZ s.files b).target≠⟨#[]⟩:=by
 have hb:=(OQ hv hl).2.2.2.2.1;obtain⟨q,i,d,m,h1,h2,h3,h4,h5,h6⟩:=K5 hb;rw[h6]at hk ⊢;have hp:=(hv.files.vd d (Aj h2)).plain m (Aj h3);unfold EM at hp;split at hp
 ·cases hp
 try rw[if_pos hk]at hp
 unfold JH at hp;intro e;rw[e]at hp;revert hp;decide+kernel
theorem eV(fl:Bool){p:AE}{ps:List AE}{w:Wk}{σ:Lk}(h:Sim w σ)(hm:w.missing=false):(∃e,E7 s fl p ps w= .inl e∧Bv s fl p ps σ.file σ.links= .inl e)∨∃w' τ,E7 s fl p ps w= .inr w'∧Bv s fl p ps σ.file σ.links= .inr τ∧Sim w' τ:=by
 have ha:=h.here hm;have hex:(true:Bool)= !w.missing:=by rw[hm];rfl
 rw[←ha,←h.links];unfold E7 Bv;by_cases c1:Ag s.files w.at_=false
 ·simp only[if_pos c1];exact .inl ⟨_,rfl,rfl⟩
 simp only[if_neg c1];by_cases c2:12<p.size
 ·simp only[if_pos c2];exact .inl ⟨_,rfl,rfl⟩
 simp only[if_neg c2];by_cases c3:p=OL
 ·have c4:¬p=Md:=by rw[c3];decide
  simp only[if_pos c3,if_neg c4];exact .inr ⟨_,_,rfl,rfl,rfl,rfl,hex,fun _=>rfl,fun c=>(by rw[hm]at c;cases c),fun _ _=>⟨fun _=>⟨rfl,rfl⟩,fun c=>absurd rfl c⟩⟩
 simp only[if_neg c3];by_cases c4:p=Md
 ·simp only[if_pos c4];exact .inr ⟨_,_,rfl,rfl,rfl,rfl,hex,fun _=>rfl,fun c=>(by rw[hm]at c;cases c),fun _ _=>⟨fun _=>⟨rfl,rfl⟩,fun c=>absurd rfl c⟩⟩
 simp only[if_neg c4];by_cases c5:D4 p=false
 ·have c6:=eT hv (a:=w.at_) c5;simp only[if_pos c5,if_pos c6,if_pos (show ps≠[]∨D4 p=false from .inr c5)];exact .inl ⟨_,rfl,rfl⟩
 simp only[if_neg c5];have hp0:p≠⟨#[]⟩:=(eL (by simpa using c5)).2.2.2.1;by_cases c6:(AD s.files w.at_ p).2≠0
 ·simp only[if_pos c6];by_cases c7:ps≠[]
  ·simp only[if_pos c7,if_pos (show ps≠[]∨D4 p=false from .inl c7)];exact .inl ⟨_,rfl,rfl⟩
  simp only[if_neg c7,if_neg (show¬(ps≠[]∨D4 p=false) from fun c=>c.elim c7 c5)];have c8:ps=[]:=Decidable.not_not.1 c7;exact .inr ⟨_,_,rfl,rfl,c8,rfl,rfl,fun c=>(by cases c),fun _=>⟨rfl,c8,rfl,rfl,hp0⟩,fun _ c=>by cases c⟩
 simp only[if_neg c6];by_cases c7:(AZ s.files (AD s.files w.at_ p).1).kind=3∧(ps≠[]∨fl=true)
 ·simp only[if_pos c7];by_cases c8:w.links=8
  ·simp only[if_pos c8];exact .inl ⟨_,rfl,rfl⟩
  simp only[if_neg c8];have ht:=eU hv (a:=w.at_) (p:=p) (b:=(AD s.files w.at_ p).1) (Prod.ext rfl (Decidable.not_not.1 c6)) c7.1;refine .inr ⟨_,_,rfl,rfl,rfl,rfl,hex,fun _=>rfl,fun c=>(by rw[hm]at c;cases c),fun hps _=>?_⟩;by_cases c9:Ck (AZ s.files (AD s.files w.at_ p).1).target=true
  ·simp only[if_pos c9];exact⟨fun _=>⟨trivial,trivial⟩,fun c=>absurd rfl c⟩
  have:=eO ht (by simpa using c9);exact absurd (List.append_eq_nil_iff.1 hps).1 this
 simp only[if_neg c7];exact .inr ⟨_,_,rfl,rfl,rfl,rfl,hex,fun _=>rfl,fun c=>(by rw[hm]at c;cases c),fun _ _=>⟨fun c=>absurd c hp0,fun _=>⟨rfl,rfl⟩⟩⟩
theorem eW{sl:Bool}{w:Wk}{σ:Lk}(h:Sim w σ)(hps:w.ps=[]):Ft s sl w=Fq s sl σ:=by
 unfold Ft Fq
 cases hm:w.missing with
 |true=>
   obtain⟨g1,_,g2,g3,g4⟩:=h.gone hm;rw[if_neg g4,h.ex,hm,g1,←g2,←g3];simp only[if_true,g4,if_false]
 |false=>
   have ha:=h.here hm;obtain⟨k1,k2⟩:=h.last hps hm;by_cases c:w.name=⟨#[]⟩
   ·obtain⟨e1,e2⟩:=k1 c;rw[if_pos c,h.ex,hm,e1,e2,←ha];simp only[if_true];by_cases cw:(Bk s w.at_).2=true
    ·rw[if_pos cw]
    rw[if_neg cw];have:Bk s w.at_=(⟨#[]⟩,false):=Ky hv fun c=>cw (OO hv c.1 c.2);rw[this]
   obtain⟨e1,e2⟩:=k2 c;rw[if_neg c,h.ex,hm,←e1,←e2,←ha];simp only[c,if_false,Bool.false_eq_true]
end
end Go.Proofs.YtobclmbkdhbnpaaGreatDoor
namespace Go.Proofs.YtobclmbkdhbnpaaGreatDoor
open Go.RowKit Go.Shelf
attribute [local go_sem] Oper.semAt_some
theorem eX(s:ByteArray)(w:World):
    Calls prog 76 #[.string s, .string ⟨#[47]⟩] w fun e w'=>
     e= .returned (.func (.func 153) #[] #[.pointer (some ⟨w.heap.size+1,0,none⟩), .pointer (some ⟨w.heap.size,0,none⟩), .pointer (some ⟨w.heap.size+1+1,0,none⟩)])∧
     w'=((w.alloc (.cells #[.string s] 9)).alloc (.cells #[.string ⟨#[47]⟩] 9)).alloc (.cells #[.int .i64 0] 3):=by
 go_enter Tryz.func76,Tryz.ntmps76
 go_wp2
 go_ret
 exact⟨rfl,rfl⟩
def OS(w:World)(b:Nat):Nat:=match w.cell? ⟨b,0,none⟩with
 |some (.string r)=>r.size
 |_=>0
theorem L9{w:World}{b:Nat}{t:TypeId}{r:ByteArray}(h:Boxed w b t (.string r)):OS w b=r.size:=by simp[OS,h.cell]
def Keep3(a b c:Nat)(X Y:World):Prop:=Y.heap[a]?=X.heap[a]?∧Y.heap[b]?=X.heap[b]?∧Y.heap[c]?=X.heap[c]?
theorem Keep3.trans{a b c:Nat}{X Y Z:World}(h:Keep3 a b c X Y)(k:Keep3 a b c Y Z):Keep3 a b c X Z:=⟨k.1.trans h.1,k.2.1.trans h.2.1,k.2.2.trans h.2.2⟩
theorem eY{a b c N:Nat}(ha:a<N)(hb:b<N)(hc:c<N)(W:World)(l:Nat)(o':Obj)(hl:N≤l):Keep3 a b c W (W.putObj l o'):=
 ⟨World.putObj_heap_other (by omega),World.putObj_heap_other (by omega),World.putObj_heap_other (by omega)⟩
theorem eZ{a b c:Nat}{X Y:World}(h:Below X.heap.size X Y)(ha:a<X.heap.size)(hb:b<X.heap.size)(hc:c<X.heap.size):Keep3 a b c X Y:=⟨h.block _ ha,h.block _ hb,h.block _ hc⟩
theorem RL(s:ByteArray)(i:Nat)(h:i<s.size):(s.extract (i+1) s.size).size<s.size:=by
 rw[ByteArray.size_extract];omega
theorem f6{s:ByteArray}{i:Nat}(hi:Lib.indexByte s.data.toList 47=i):i<s.size∧C8 s.data.toList=(s.extract 0 i).data.toList::C8 (s.extract (i+1) s.size).data.toList:=by
 have hm:(47:UInt8)∈s.data.toList:=by
  apply Classical.byContradiction;intro h;rw[Tn h]at hi;omega
 obtain⟨j,hj,hlt,hl,hn⟩:=QU hm;obtain rfl:j=i:=by omega
 refine⟨by rw[Lib.size_eq];exact hlt,?_⟩;rw[Lib.extract_data,Lib.extract_to_end];simp only[List.drop_zero,Nat.sub_zero]
 conv=>lhs;rw[hl]
 exact Ti hn _
theorem f8{s:ByteArray}(hi:Lib.indexByte s.data.toList 47<0):C8 s.data.toList=[s.data.toList]:=by
 refine O4 fun h=>?_;obtain⟨i,hi',_⟩:=QU h;omega
def DU(xs:List AE):List Bs:=xs.map fun x=>x.data.toList
set_option maxRecDepth 100000 in
set_option maxHeartbeats 1000000 in
theorem f9(n:Nat)(s:ByteArray)(hs:s.size≤1000000)(b0 b1 b2:Nat)(w:World)(h0:Boxed w b0 9 (.string s))(h1:Boxed w b1 9 (.string ⟨#[47]⟩))(h2:Boxed w b2 3 (.int .i64 0))(h01:b0≠b1)(h02:b0≠b2):
    SeqW Fence.wide n prog 153 #[.pointer (some ⟨b1,0,none⟩), .pointer (some ⟨b0,0,none⟩), .pointer (some ⟨b2,0,none⟩)] (fun x:AE=>#[.string x]) (fun b=>b=b0) (Keep3 b0 b1 b2) (fun xs=>DU xs<+:C8 s.data.toList)
     (fun xs=>DU xs=C8 s.data.toList) (fun pre=>DU pre<+:C8 s.data.toList) w:=fun l J Jx W hW hJ hJx hY hst=>by
 have k0:Boxed W b0 9 (.string s):=Ba h0 hW h0.lt;have k1:Boxed W b1 9 (.string ⟨#[47]⟩):=Ba h1 hW h1.lt;have k2:Boxed W b2 3 (.int .i64 0):=Ba h2 hW h2.lt;refine callsIn_of_wp Tryz.func153 rfl trivial ?_ rfl;simp only[Tryz.ntmps153,List.size_toArray,List.length_cons,List.length_nil,Nat.reduceAdd,Nat.reduceSub,Array.replicate_succ,Array.replicate_zero,List.push_toArray,List.append_toArray,List.nil_append,List.cons_append];have c1:=k1.cell
 gi_wp2
 gi_loopw [7] (fun _ wr=>∃(pre:List AE) (r:ByteArray),Boxed wr b0 9 (.string r)∧Boxed wr b1 9 (.string ⟨#[47]⟩)∧Boxed wr b2 3 (.int .i64 0)∧J pre wr∧Hid (DU pre++C8 r.data.toList=C8 s.data.toList)∧r.size≤s.size) (fun _ wr=>OS wr b0)
 case atStart=>exact⟨[],s,k0,k1,k2,hst,rfl,Av _⟩
 case round=>
  obtain⟨pre,r,m0,m1,m2,hj,hpre,hle⟩:=hrel;clear k0 k1 k2 c1 hst;have c0:=m0.cell;have c1:=m1.cell;have c2:=m2.cell;have f0:=m0.frozen
  gi_wp2_with fail
  refine Dw ((callsIn_wide.2 (Ym _ _)).mono ?_);rintro e w' ⟨rfl,rfl⟩;have hge:=Lib.indexByte_ge r.data.toList 47;by_cases hneg:Lib.indexByte r.data.toList 47<0
  ·have HS:=Lib.hid (f8 hneg);obtain⟨fn,tmps,assign,body,hy,hR⟩:=hY pre r wr hj (by rw[←hpre.out,HS.out];simp[DU])
   gi_wp2
   refine⟨(fun h=>by cases h),hR.mono ?_⟩;rintro e W3 (⟨rfl,hJ3,hk3⟩|⟨rfl,hJx3⟩)
   ·gi_wp2
    go_end0
    exact⟨⟨_,rfl⟩, .inl ⟨pre++[r],by rw[←hpre.out,HS.out];simp[DU],hJ3⟩⟩
   gi_wp2
   go_end0
   exact⟨⟨_,rfl⟩, .inr ⟨pre++[r],by rw[←hpre.out,HS.out];simp[DU],hJx3⟩⟩
  obtain⟨i,hi⟩:=Int.eq_ofNat_of_zero_le (show 0≤Lib.indexByte r.data.toList 47 by omega);obtain⟨hlt,hseg⟩:=f6 hi;have HS:=Lib.hid hseg;clear hseg hge hneg;rw[hi];clear hi;obtain⟨fn,tmps,assign,body,hy,hR⟩:=hY pre (r.extract 0 i) wr hj (by rw[←hpre.out,HS.out];simp[DU])
  gi_wp2
  refine⟨(fun h=>by cases h),hR.mono ?_⟩;rintro e W3 (⟨rfl,hJ3,hk3⟩|⟨rfl,hJx3⟩)
  ·have q0:Boxed W3 b0 9 (.string r):=hk3.1.trans m0;have q1:Boxed W3 b1 9 (.string ⟨#[47]⟩):=hk3.2.1.trans m1;have q2:Boxed W3 b2 3 (.int .i64 0):=hk3.2.2.trans m2;clear c0 c1 c2 f0 hy hR;have c0:=q0.cell;have c1:=q1.cell;have c2:=q2.cell;have f0:=q0.frozen
   gi_wp2
   go_roundw
   case rel=>exact⟨pre++[r.extract 0 i],r.extract (i+1) r.size,q0.set _,q1.other (Ne.symm h01) _,q2.other (Ne.symm h02) _,hJ _ _ _ hJ3 (Moves.set_ (own:=fun b=>b=b0) _ rfl _),Lib.hid (by rw[←hpre.out,HS.out];simp[DU]),Nat.le_trans (Nat.le_of_lt (RL r i hlt)) hle⟩
   case measure=>rw[L9 (q0.set _),L9 m0];exact RL r i hlt
  gi_wp2
  refine bodyPost_ret (results_none rfl _ _ _) rfl ?_;exact⟨⟨_,rfl⟩, .inr ⟨pre++[r.extract 0 i],by rw[←hpre.out,HS.out];simp[DU],hJx3⟩⟩
end Go.Proofs.YtobclmbkdhbnpaaGreatDoor
namespace Go.Proofs.YtobclmbkdhbnpaaGreatDoor
open Go.RowKit Go.Shelf
attribute [local go_sem] Oper.semAt_some
theorem Mk(l:Bs):Lib.hasPrefix l [47]=decide (l.head?=some 47):=by
 unfold Lib.hasPrefix
 cases l with
 |nil=>simp
 |cons c t=>
   rw[Bool.eq_iff_iff,List.isPrefixOf_iff_prefix];simp[List.cons_prefix_cons,eq_comm]
theorem fA{l:Bs}(h:l.head?=some 47):Lib.trimPrefix l [47]=l.tail:=by
 unfold Lib.trimPrefix;rw[Mk,if_pos (by simp[h])];simp
set_option maxRecDepth 100000 in
set_option maxHeartbeats 1000000 in
theorem VE(s:ByteArray)(w:World)(h:s.data.toList=[47]∨s.data.toList.head?≠some 47):
    Calls prog 52 #[.string s] w fun e w'=>e= .returned (.bool (Dp s.data.toList))∧Below w.heap.size w w':=by
 by_cases h1:s.data.toList=[47]
 ·obtain rfl:s=⟨#[47]⟩:=Tl h1
  go_enter Tryz.func52,Tryz.ntmps52
  go_wp2
  exact bodyPost_ret (v:= .bool true) (by simp[results,Tryz.results52,go_sem]) rfl ⟨rfl,(Below.refl _ _).alloc (Av _) _⟩
 have h2:s.data.toList.head?≠some 47:=h.resolve_left h1;have e1:(s.toList==[47])=false:=by rw[GD,beq_eq_false_iff_ne];exact h1
 have HP:=Lib.hid (Mk s.data.toList);have HF:Hid (Dp s.data.toList=false):=Lib.hid (by unfold Dp;simp[h1,h2]);have HD:Hid (decide (s.data.toList.head?=some 47)=false):=Lib.hid (decide_eq_false h2);clear h h1 h2
 go_enter Tryz.func52,Tryz.ntmps52
 go_wp2_with fail
 refine(Tryz.strings_CutPrefix _ _ _).mono ?_;rintro e w' ⟨rfl,rfl⟩;rw[HP.out,HD.out]
 go_wp2
 exact bodyPost_ret (v:= .bool false) (by simp[results,Tryz.results52,go_sem]) rfl ⟨by rw[HF.out],(Below.refl _ _).alloc (Av _) _⟩
set_option maxRecDepth 100000 in
set_option maxHeartbeats 1000000 in
theorem fB(n:Nat)(hn:Hid (1≤n))(s:ByteArray)(w:World)(hs:s.size≤1000000)(h1:s.data.toList≠[47])(h2:s.data.toList.head?=some 47):
    CallsIn Fence.wide n prog 52 #[.string s] w fun e w'=>e= .returned (.bool (Dp s.data.toList))∧Below w.heap.size w w':=by
 have e1:(s.toList==[47])=false:=by rw[GD,beq_eq_false_iff_ne];exact h1
 have HP:=Lib.hid (Mk s.data.toList);have HT:=Lib.hid (fA h2);have HF:Hid (Dp s.data.toList=(C8 s.data.toList.tail).all E3):=Lib.hid (by unfold Dp;simp[h1,h2]);have HD:Hid (decide (s.data.toList.head?=some 47)=true):=Lib.hid (decide_eq_true h2);clear h1 h2;refine callsIn_of_wp_marks Tryz.func52 rfl trivial ?_ rfl;simp only[Tryz.ntmps52,List.size_toArray,List.length_cons,List.length_nil,Nat.reduceAdd,Nat.reduceSub,Array.replicate_succ,Array.replicate_zero,List.push_toArray,List.append_toArray,List.nil_append,List.cons_append]
 gi_wp2_with fail
 refine Dw ((callsIn_wide.2 (Tryz.strings_CutPrefix _ _ _)).mono ?_);rintro e w' ⟨rfl,rfl⟩;obtain⟨r,hr⟩:∃r:ByteArray,r=⟨(Lib.trimPrefix s.data.toList [47]).toArray⟩:=⟨_,rfl⟩;have hrl:r.data.toList=s.data.toList.tail:=by rw[hr,←HT.out]
 have HR:=Lib.hid hrl;have hrs:r.size≤1000000:=by rw[Lib.size_eq,hrl,List.length_tail,←Lib.size_eq];omega
 rw[HP.out,HD.out];rw[show(⟨(Lib.trimPrefix s.data.toList (ByteArray.mk #[47]).data.toList).toArray⟩:ByteArray)=r from hr.symm];clear hrl hr
 gi_wp2_with fail
 refine Dw ((callsIn_wide.2 (eX _ _)).mono ?_);rintro e w' ⟨rfl,rfl⟩
 gi_wp2_with fail
 have hR:Boxed (w.alloc (.cells #[.bool false] 4)) w.heap.size 4 (.bool false):=Boxed.new _ _ _;obtain⟨W0,hW0⟩:∃W0,w.alloc (.cells #[.bool false] 4)=W0:=⟨_,rfl⟩;have hz0:W0.heap.size=w.heap.size+1:=by rw[←hW0];simp
 have hB0:Below w.heap.size w W0:=by rw[←hW0];exact FM _ _
 rw[hW0]at hR ⊢;obtain⟨WL,hWL⟩:∃WL,((W0.alloc (.cells #[.string r] 9)).alloc (.cells #[.string ⟨#[47]⟩] 9)).alloc (.cells #[.int .i64 0] 3)=WL:=⟨_,rfl⟩;have hzL:WL.heap.size=w.heap.size+1+1+1+1:=by rw[←hWL];simp[hz0]
 have hBL:Below W0.heap.size W0 WL:=by rw[←hWL];exact Lx _ _ _ _
 have k0:Boxed WL (w.heap.size+1) 9 (.string r):=by rw[←hWL,←hz0];exact Ly _ _ _ _
 have k1:Boxed WL (w.heap.size+1+1) 9 (.string ⟨#[47]⟩):=by rw[←hWL,←hz0];exact Lz _ _ _ _
 have k2:Boxed WL (w.heap.size+1+1+1) 3 (.int .i64 0):=by rw[←hWL,←hz0];exact M0 _ _ _ _
 have kR:Boxed WL w.heap.size 4 (.bool false):=Ba hR hBL hR.lt;have hBw:Below w.heap.size w WL:=hB0.trans (hBL.mono (by omega));rw[hWL];have HB0:=Lib.hid hz0;have HBL:=Lib.hid hzL;clear hW0 hWL hz0 hR hB0 hBL hzL
 refine Ty rfl hn.out (gf:=153) rfl trivial (enters_of Tryz.func153 (by kernel_rfl) rfl)
  (f9 (n - 1) r hrs (w.heap.size+1) (w.heap.size+1+1) (w.heap.size+1+1+1) WL k0 k1 k2 (by omega) (by omega))
  (fun b hb=>by have:=HBL.out;omega) Keep3.trans (fun W l o o' hl _ _=>by have:=HBL.out;exact eY (N:=WL.heap.size) (by omega) (by omega) (by omega) W l o' hl) (Below.refl _ _) (fun _=>rfl)
  (fun pre W=>Boxed W w.heap.size 4 (.bool false)∧(∀p∈DU pre,E3 p=true)∧Below w.heap.size w W)
  (fun c pre W=>c= .ret∧Boxed W w.heap.size 4 (.bool false)∧(∃p∈DU pre,E3 p=false)∧Below w.heap.size w W)
  (fun s X Y h hm=>⟨hm.boxed h.1 (by omega),h.2.1,hm.under h.2.2 (Av _) (fun b hb=>by omega) (by have:=HBL.out;omega)⟩)
  (fun c s X Y h hm=>⟨h.1,hm.boxed h.2.1 (by omega),h.2.2.1,hm.under h.2.2.2 (Av _) (fun b hb=>by omega) (by have:=HBL.out;omega)⟩)
  ⟨kR,by simp[DU],hBw⟩
  (fun x=>{tmps:=#[.string s,undef, .pointer (some ⟨w.heap.size,0,none⟩), .string r, .bool true, .string x, .string s, .bool false, .tuple #[.string r, .bool true], .string s, .tuple #[.string r, .bool true], .string r, .bool true, .bool true, .bool false, .string r,
    .func (.func 153) #[] #[.pointer (some ⟨w.heap.size+1+1,0,none⟩), .pointer (some ⟨w.heap.size+1,0,none⟩), .pointer (some ⟨w.heap.size+1+1+1,0,none⟩)], .string x,undef,undef,undef],defers:=[]}) ?assign ?body ?done ?stop
 case assign=>
  intro l x W K hK
  gi_wp2
  exact hK
 case body=>
  rintro l pre x W ⟨hc,hnm,hbw⟩ _ hsz;have hcell:=hc.cell;have hfz:=hc.frozen;have HN:=Lib.hid hnm;have HZ:=Lib.hid hsz;clear hnm hsz
  gi_wp2_with fail
  refine Dw ((CallsIn.inRound l (callsIn_wide.2 (Ts x W))).mono ?_);rintro e W' ⟨rfl,hb'⟩;have hc':Boxed W' w.heap.size 4 (.bool false):=Ba hc hb' hc.lt;have hbw':Below w.heap.size w W':=hbw.trans (hb'.mono hbw.size);clear hcell hfz;have hcell:=hc'.cell;have hfz:=hc'.frozen;have HX:Hid (DU (pre++[x])=DU pre++[x.data.toList]):=Lib.hid (by simp[DU])
  cases hnx:E3 x.data.toList with
  |true=>
    gi_wp2
    have h1:=HBL.out;have h2:=HZ.out;exact⟨KD hb',eZ hb' (by omega) (by omega) (by omega),hc',by rw[HX.out];intro p hp;rcases List.mem_append.1 hp with hp|hp;exact HN.out p hp;simp at hp;rw[hp];exact hnx,hbw'⟩
  |false=>
    gi_wp2
    have h1:=HBL.out;exact⟨MV (KD hb') (by omega) _,rfl,hc'.set _,⟨x.data.toList,by rw[HX.out];simp,hnx⟩,hbw'.setCell (Av _) _⟩
 case done=>
  rintro D xs W hD hS ⟨hc,hnm,hbw⟩ hK;have HS:=Lib.hid hS;have HN:=Lib.hid hnm;clear hS hnm;have hcell:=hc.cell;have hfz:=hc.frozen
  gi_wp2
  refine⟨by simp, .inl ⟨_,_,rfl,run_takeDeferred ((KeepsOthers.setCell _ _ _).same D _ hK rfl),?_⟩⟩;have h1:=HBL.out;have hcb:=(Hu (hc.set (.bool true)) (show w.heap.size≠D by omega) (.deferred none)).cell;refine⟨.bool true,by simp[results,Tryz.f52,go_sem,hcb],by rw[HF.out,←HR.out,←HS.out,List.all_eq_true.2 HN.out],KE (hbw.setCell (p:=⟨w.heap.size,0,none⟩) (Av _) _) (by omega) _⟩
 case stop=>
  rintro D c pre W hD hSp ⟨rfl,hc,hnm,hbw⟩ hK;have HS:=Lib.hid hSp;have HN:=Lib.hid hnm;clear hSp hnm;have hcell:=hc.cell
  gi_wp2
  refine⟨by simp, .inl ⟨_,_,rfl,run_takeDeferred hK,?_⟩⟩;have h1:=HBL.out;have hcb:=(Hu hc (show w.heap.size≠D by omega) (.deferred none)).cell;refine⟨.bool false,by simp[results,Tryz.f52,go_sem,hcb],?_,KE hbw (by omega) _⟩;obtain⟨p,hp,hpf⟩:=HN.out;rw[HF.out,←HR.out,List.all_eq_false.2 ⟨p,HS.out.subset hp,by simp[hpf]⟩]
theorem fC(s:ByteArray)(w:World)(hs:s.size≤1000000):
    Calls prog 52 #[.string s] w fun e w'=>e= .returned (.bool (Dp s.data.toList))∧Below w.heap.size w w':=by
 by_cases h1:s.data.toList=[47]
 ·exact VE s w (.inl h1)
 by_cases h2:s.data.toList.head?=some 47
 ·exact callsIn_wide.1 (fB 6 (Lib.hid (by omega)) s w hs h1 h2)
 exact VE s w (.inr h2)
end Go.Proofs.YtobclmbkdhbnpaaGreatDoor
namespace Go.Proofs.YtobclmbkdhbnpaaGreatDoor
open Go.RowKit
def flat{α:Type}(sz:Nat)(cell:α→Nat→Value)(xs:List α):List Value:=xs.flatMap fun x=>(List.range sz).map (cell x)
section
variable {α:Type}{sz:Nat}{cell:α→Nat→Value}
theorem flat_get(xs:List α):∀(i j:Nat) (x:α),xs[i]?=some x→j<sz→(flat sz cell xs)[i * sz+j]?=some (cell x j):=by
 induction xs with
 |nil=>intro i j x h;simp at h
 |cons y ys ih=>
   intro i j x h hj;have e:flat sz cell (y::ys)=(List.range sz).map (cell y)++flat sz cell ys:=by simp[flat]
   rw[e]
   cases i with
   |zero=>
     simp at h;subst h;rw[Ca (by simpa using hj)];simp[hj]
   |succ i=>
     rw[DP (by simp[Nat.add_mul];omega)];simp only[List.getElem?_cons_succ]at h;have:=ih i j x h hj;rw[←this]
     congr 1
     simp[Nat.add_mul];omega
def OwnL(sz:Nat)(cell:α→Nat→Value)(E:TypeId)(w:World)(base:Nat)(v:Value)(xs:List α):Prop:=
 w.ownsRow base E sz v xs.length (flat sz cell xs)
theorem OwnL.list{E:TypeId}{w:World}{base:Nat}{v:Value}{xs:List α}(h:OwnL sz cell E w base v xs)(hf:xs.length≤few){D:Nat→Prop}(hD:∀b,base≤b→b<w.heap.size→D b):ListR sz cell w D v xs:=by
 rcases h.2 with⟨rfl,hn⟩|⟨g,cap,cur,rfl,hb,hg,hnc,_,hcs,htake⟩
 ·obtain rfl:xs=[]:=DE hn;exact ListR.nil_
 refine⟨_,_,rfl,hnc,hf,fun _=>⟨g,0,rfl,hD g hb (Array.getElem?_eq_some_iff.1 hg).1,fun i x j hi hj=>?_⟩⟩
 have hlt:i * sz+j<xs.length * sz:=by
  have h1:=(Ai.1 hi).1;have h2:(i+1) * sz≤xs.length * sz:=Nat.mul_le_mul_right sz h1;rw[Nat.add_mul]at h2;omega
 rw[Nat.zero_add,cell_of_row w g _ cur E (0,0) hg,←flat_get xs i j x hi hj,←htake,List.getElem?_take,if_pos hlt];simp
end
theorem fD(l:Bs):Lib.hasSuffix l [47]=decide (l.getLast?=some 47):=by
 unfold Lib.hasSuffix;rw[Bool.eq_iff_iff,List.isSuffixOf_iff_suffix,decide_eq_true_iff];rcases List.eq_nil_or_concat l with rfl|⟨a,x,rfl⟩
 ·simp
 simp only[List.concat_eq_append,List.getLast?_concat,Option.some.injEq];constructor
 ·rintro⟨t,ht⟩;have:=congrArg List.getLast? ht
  simpa[eq_comm]using this
 rintro rfl;exact⟨a,rfl⟩
theorem VF(l:Bs):(By l).length≤l.length+1:=by
 have h1:(By l).length≤(C8 l).length:=List.length_filter_le _ _
 have h2:(C8 l).length≤l.length+1:=by
  clear h1
  induction l with
  |nil=>simp[C8]
  |cons c t ih=>
    rw[QO];split
    ·simp;omega
    split
    ·simp
    rename_i h;rw[h]at ih;simp at ih ⊢;omega
 omega
theorem fE(xs:List AE):flat 1 Lu xs=xs.map Value.string:=by
 induction xs with
 |nil=>rfl
 |cons x xs ih=>
   unfold flat at ih ⊢;rw[List.flatMap_cons,ih];rfl
theorem Tryz.infoStr:(prog.info? 9).map (fun i=>(i.zero,i.size,i.bytes))=some (some (.string ⟨#[]⟩),1,16):=by kernel_rfl
set_option maxHeartbeats 400000 in
theorem fF(s:ByteArray)(w:World)(i:Nat)(hi:Lib.indexByte s.data.toList 47=i)(hlt:i<s.size)(hmax:s.size≤1000000):
    Calls prog 158 #[.string s, .string ⟨#[47]⟩] w fun e w'=>e= .returned (.tuple #[.string (s.extract 0 i), .string (s.extract (i+1) s.size), .bool true])∧∃n,w'=w.drewN n:=by
 have HI:=Lib.hid hi;clear hi
 have h1:Calls prog 175 #[.string s, .string ⟨#[47]⟩] w fun e w'=>e= .returned (.tuple #[.string (s.extract 0 i), .string (s.extract (i+1) s.size), .bool true])∧∃n,w'=w.drewN n:=by
  go_enter Tryz.func175,Tryz.ntmps175
  go_wp2_with fail
  refine(QT _ _).mono ?_;rintro e w' ⟨rfl,rfl⟩;rw[HI.out]
  go_wp2_with fail
  go_quiet (fail)
  go_wp2
  go_ret3
  exact⟨rfl,_,rfl⟩
 go_enter Tryz.func158,Tryz.ntmps158
 go_wp2_with fail
 refine h1.mono ?_;rintro e w' ⟨rfl,n,rfl⟩
 go_wp2
 go_ret3
 exact⟨rfl,_,rfl⟩
set_option maxHeartbeats 400000 in
theorem fG(s:ByteArray)(w:World)(hi:Lib.indexByte s.data.toList 47= -1):
    Calls prog 158 #[.string s, .string ⟨#[47]⟩] w fun e w'=>e= .returned (.tuple #[.string s, .string ⟨#[]⟩, .bool false])∧w=w':=by
 have HI:=Lib.hid hi;clear hi
 have h1:Calls prog 175 #[.string s, .string ⟨#[47]⟩] w fun e w'=>e= .returned (.tuple #[.string s, .string ⟨#[]⟩, .bool false])∧w=w':=by
  go_enter Tryz.func175,Tryz.ntmps175
  go_wp2_with fail
  refine(QT _ _).mono ?_;rintro e w' ⟨rfl,rfl⟩;rw[HI.out]
  go_wp2
  go_ret3
  exact⟨rfl,rfl⟩
 go_enter Tryz.func158,Tryz.ntmps158
 go_wp2_with fail
 refine h1.mono ?_;rintro e w' ⟨rfl,rfl⟩
 go_wp2
 go_ret3
 exact⟨rfl,rfl⟩
end Go.Proofs.YtobclmbkdhbnpaaGreatDoor
namespace Go.Proofs.YtobclmbkdhbnpaaGreatDoor
open Go.RowKit Go.Shelf
attribute [local go_sem] Oper.semAt_some
def fH(s:AE)(w:World)(e:Ending)(w':World):Prop:=∃(p q:AE) (b:Bool) (n:Nat),e= .returned (.tuple #[.string p, .string q, .bool b])∧w'=w.drewN n∧By s.data.toList=one_ p.data.toList++By q.data.toList∧(0<s.size→q.size<s.size)
theorem fJ(s:ByteArray)(w:World)(hmax:s.size≤1000000):Calls prog 158 #[.string s, .string ⟨#[47]⟩] w (fH s w):=by
 by_cases h:(47:UInt8)∈s.data.toList
 ·obtain⟨i,hi,hlt,hl,hn⟩:=QU h;have hlt':i<s.size:=by rw[Lib.size_eq];exact hlt
  refine(fF s w i hi hlt' hmax).mono ?_;rintro e w' ⟨rfl,n,rfl⟩;refine⟨_,_,_,n,rfl,rfl,?_,fun _=>RL s i hlt'⟩;rw[Lib.extract_data,Lib.extract_to_end];simp only[List.drop_zero,Nat.sub_zero]
  conv=>lhs;rw[hl]
  exact Ye hn _
 refine(fG s w (Tn h)).mono ?_;rintro e w' ⟨rfl,rfl⟩;refine⟨_,_,_,0,rfl,rfl,?_,fun h=>h⟩;rw[O5 h];simp[JT]
theorem fK(s:ByteArray)(w:World):
    Calls prog 119 #[.string s] w fun e w'=>
     e= .returned (.func (.func 157) #[] #[.pointer (some ⟨w.heap.size,0,none⟩)])∧w'=w.alloc (.cells #[.string s] 9):=by
 go_enter Tryz.func119,Tryz.ntmps119
 go_wp2
 go_ret
 exact⟨rfl,rfl⟩
theorem OT(s:ByteArray):s.toList.isEmpty=decide (s.size=0):=by
 rw[GD,Lib.size_eq,Bool.eq_iff_iff,List.isEmpty_iff,decide_eq_true_iff,List.length_eq_zero_iff]
def fL(a:Nat)(X Y:World):Prop:=Y.heap[a]?=X.heap[a]?
set_option maxRecDepth 100000 in
set_option maxHeartbeats 1000000 in
theorem fM(n:Nat)(s:ByteArray)(hs:s.size≤1000000)(b0:Nat)(w:World)(h0:Boxed w b0 9 (.string s)):
    SeqW Fence.wide n prog 157 #[.pointer (some ⟨b0,0,none⟩)] (fun x:AE=>#[.string x]) (fun b=>b=b0) (fL b0) (fun xs=>DU xs<+:By s.data.toList)
     (fun xs=>DU xs=By s.data.toList) (fun pre=>DU pre<+:By s.data.toList) w:=fun l J Jx W hW hJ hJx hY hst=>by
 have k0:Boxed W b0 9 (.string s):=Ba h0 hW h0.lt;refine callsIn_of_wp Tryz.func157 rfl trivial ?_ rfl;simp only[Tryz.ntmps157,List.size_toArray,List.length_cons,List.length_nil,Nat.reduceAdd,Nat.reduceSub,Array.replicate_succ,Array.replicate_zero,List.push_toArray,List.append_toArray,List.nil_append,List.cons_append]
 gi_wp2
 gi_loopw [3] (fun _ wr=>∃(pre:List AE) (r:ByteArray),Boxed wr b0 9 (.string r)∧J pre wr∧Hid (DU pre++By r.data.toList=By s.data.toList)∧r.size≤s.size) (fun _ wr=>OS wr b0)
 case atStart=>exact⟨[],s,k0,hst,rfl,Av _⟩
 case round=>
  obtain⟨pre,r,m0,hj,hpre,hle⟩:=hrel;clear k0 hst;have c0:=m0.cell;have f0:=m0.frozen;by_cases hr:r.size=0
  ·have he:r.toList.isEmpty=true:=by rw[OT];simp[hr]
   have he':r.toList=[]:=List.isEmpty_iff.1 he;have HP:Hid (By r.data.toList=[]):=by rw[←GD,he'];exact Lib.hid JT
   gi_wp2
   go_end0
   exact⟨⟨_,rfl⟩, .inl ⟨pre,by rw[←hpre.out,HP.out];simp,hj⟩⟩
  have he:r.toList.isEmpty=false:=by rw[OT];simp[hr]
  gi_wp2_with fail
  refine Dw ((callsIn_wide.2 (fJ _ _ (by omega))).mono ?_);rintro e w' ⟨p,q,b,nd,rfl,rfl,hpq,hq⟩;have hql:=hq (by omega);have HP:=Lib.hid hpq;clear hpq hq;have hj':J pre ((wr.drewN nd).setCell ⟨b0,0,none⟩ (.string q)):=hJ _ _ _ (hJ _ _ _ hj (Moves.below (Nl (Below.refl _ _) nd))) (Moves.set_ (own:=fun b=>b=b0) _ rfl _);have m0':Boxed ((wr.drewN nd).setCell ⟨b0,0,none⟩ (.string q)) b0 9 (.string q):=Boxed.set _ (show Boxed (wr.drewN nd) b0 9 (.string r) from m0);by_cases hp:p.size=0
  ·have hpe:p.toList.isEmpty=true:=by rw[OT];simp[hp]
   have hpe':p.toList=[]:=List.isEmpty_iff.1 hpe;have HO:Hid (one_ p.data.toList=[]):=by rw[←GD,hpe'];exact Lib.hid rfl
   gi_wp2
   refine⟨fun _ h=>(by cases h),?_⟩
   gi_wp2
   go_roundw
   case rel=>exact⟨pre,q,m0',hj',Lib.hid (by rw[←hpre.out,HP.out,HO.out];simp),by omega⟩
   case measure=>rw[L9 m0',L9 m0];exact hql
  have HO:Hid (one_ p.data.toList=[p.data.toList]):=Lib.hid (if_neg (fun e=>hp (by rw[Lib.size_eq,e];rfl)));have hpe:p.toList.isEmpty=false:=by rw[OT];simp[hp]
  obtain⟨fn,tmps,assign,body,hy,hR⟩:=hY pre p _ hj' (by rw[←hpre.out,HP.out,HO.out];simp[DU])
  gi_wp2
  refine⟨(fun h=>by cases h),hR.mono ?_⟩;rintro e W3 (⟨rfl,hJ3,hk3⟩|⟨rfl,hJx3⟩)
  ·have q0:Boxed W3 b0 9 (.string q):=hk3.trans m0';clear c0 f0 hy hR
   gi_wp2
   go_roundw
   case rel=>exact⟨pre++[p],q,q0,hJ3,Lib.hid (by rw[←hpre.out,HP.out,HO.out];simp[DU]),by omega⟩
   case measure=>rw[L9 q0,L9 m0];exact hql
  gi_wp2
  refine bodyPost_ret (results_none rfl _ _ _) rfl ?_;exact⟨⟨_,rfl⟩, .inr ⟨pre++[p],by rw[←hpre.out,HP.out,HO.out];simp[DU],hJx3⟩⟩
end Go.Proofs.YtobclmbkdhbnpaaGreatDoor
