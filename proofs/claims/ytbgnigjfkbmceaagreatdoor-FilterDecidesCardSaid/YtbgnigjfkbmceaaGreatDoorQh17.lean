/-
  Part 17 of the proof of FilterDecidesP: what the statement's proof uses of the texts in wip/tpl.
-/
import Derived.Test.YtbgnigjfkbmceaaGreatDoorQh16
open Go.Proofs.Tryz (prog)
set_option maxRecDepth 10000
set_option maxHeartbeats 4000000
set_option linter.unusedVariables false
set_option linter.unusedSimpArgs false
namespace Go.Proofs.YtbgnigjfkbmceaaGreatDoor
open Go.RowKit
def Db(t:Tab):Prop:=0≤t.next∧0≤t.nextS
theorem pW{t:Tab}{pid:Int}{j:Nat}{x:Prc}{acc:List Prc}(hy:t.ps[j]?=some x)(ha:((t.ps.take j).filter fun p=>decide (p.pid≠pid)).map (Jl pid)=acc):((t.ps.take (j+1)).filter fun p=>decide (p.pid≠pid)).map (Jl pid)=if x.pid≠pid then acc++[Jl pid x]else acc:=by
 rw[List.take_add_one,hy,List.filter_append,List.map_append,ha];by_cases h:x.pid=pid<;>simp[h]
section
theorem Ui(n:Int):AFn prog 251 [.v (.int .i64 n)] (fun r=>r= .v (.bool (Kk n))):=by
 refine enter Tryz.func251 rfl rfl rfl rfl rfl 0 rfl ?_;refine EL (h:=DR (h:=m_ (h:=?_)));refine AJ true rfl rfl (fun hb1 hc1=>?_) (fun hb1 hc1=>?_)
 ·refine m_ (h:=JG (h:=Gf (h:=?_)));refine A6 ?_
  first|(exfalso;first|contradiction|omega)|(exact vb (by simp[Kk, *]))
 refine Fj (h:=Az (h:=?_));refine A6 ?_
 first|(exfalso;first|contradiction|omega)|(exact vb (by simp[Kk, *]))
theorem Zp(b:Bool)(x y n:Int):AFn prog 252 [.v (.bool b), .v (.int .i64 x), .v (.int .i64 y), .v (.int .i64 n)] (fun r=>r= .tup [.v (.int .i64 (FP b x y n).1), .v (.int .i64 (FP b x y n).2.1), .v (.int .i64 (FP b x y n).2.2)]):=by
 refine enter Tryz.func252 rfl rfl rfl rfl rfl 0 rfl ?_;refine w_ (a_ (h:=a_ (h:=Bo (h:=e_ (?_)))));refine A4 rfl (fun hb1 hc1=>?_) (fun hb1 hc1=>?_)
 ·refine DA (h:=a_ (h:=EV (h:=?_)));refine A6 ?_
  first|(exfalso;first|contradiction|omega)|(unfold FP;simp[*];rfl)
 refine EX (h:=CE (h:=m_ (h:=?_)));refine AJ false rfl rfl (fun hb2 hc2=>?_) (fun hb2 hc2=>?_)
 ·refine EM (h:=E3 (h:=DA (h:=a_ (h:=EV (h:=?_)))));refine A6 ?_
  first|(exfalso;first|contradiction|omega)|(unfold FP;simp[*];rfl)
 refine m_ (h:=CE (h:=CO (h:=?_)));refine A4 rfl (fun hb3 hc3=>?_) (fun hb3 hc3=>?_)
 ·refine DA (h:=a_ (h:=EV (h:=?_)));refine A6 ?_
  first|(exfalso;first|contradiction|omega)|(unfold FP;simp[*];rfl)
 refine AG (w_ (a_ (h:=a_ (h:=Az (h:=?_)))));refine A6 ?_
 first|(exfalso;first|contradiction|omega)|(unfold FP;simp[*];rfl)
theorem pX(t:Tab)(pid:Int)(a:AD)(ht:TabB t):AFn prog 206 [.agg (Ao t), .v (.int .i64 pid), .agg (AB a)] (fun r=>r=Cz (LC t pid a)):=by
 have h8:=Jt ht pid;refine enter Tryz.func206 rfl rfl rfl rfl rfl 0 rfl ?_;refine FU (h:=Je (h:=?_));refine A3 rfl (A8 (KK t pid ht) ?_);rintro r rfl;refine H8 (h:=?_);refine A4 rfl (fun hb1 hc1=>?_) (fun hb1 hc1=>?_)
 ·have hno:CS t pid=false:=by simpa using hc1
  refine Bx (h:=?_);refine AX (r:=Cz (LC t pid a)) none (h5:=?_) (h6:=⟨rfl,rfl,rfl⟩);rw[LC,if_pos hno];exact GA _
 have hhas:CS t pid=true:=by simpa using hc1
 refine AG (C4 (h:=DF (h:=CA (h:=?_))));refine A3 rfl (A8 (Ng t {AP t pid with cwd:=a} ht (Mv hhas) (by show(AP t pid).opens.length≤1000;omega)) ?_);rintro r rfl;refine s_ (h:=Az (h:=?_));refine A6 ?_;rw[LC,if_neg (by simp[hhas])];rfl
theorem pY(t:Tab)(pid:Int)(x y:AF)(ht:TabB t):AFn prog 205 [.agg (Ao t), .v (.int .i64 pid), .v (.string x), .v (.string y)] (fun r=>r=Cz (LD t pid x y)):=by
 have h8:=Jt ht pid;refine enter Tryz.func205 rfl rfl rfl rfl rfl 0 rfl ?_;refine E5 (h:=Je (h:=?_));refine A3 rfl (A8 (KK t pid ht) ?_);rintro r rfl;refine H8 (h:=?_);refine A4 rfl (fun hb1 hc1=>?_) (fun hb1 hc1=>?_)
 ·have hno:CS t pid=false:=by simpa using hc1
  refine Bx (h:=?_);refine AX (r:=Cz (LD t pid x y)) none (h5:=?_) (h6:=⟨rfl,rfl,rfl⟩);rw[LD,if_pos hno];exact GA _
 have hhas:CS t pid=true:=by simpa using hc1
 refine AG (DA (h:=Dh (h:=DF (h:=CA (h:=?_)))));refine A3 rfl (A8 (Ng t {AP t pid with exe:=x,comm:=y} ht (Mv hhas) (by show(AP t pid).opens.length≤1000;omega)) ?_);rintro r rfl;refine s_ (h:=Az (h:=?_));refine A6 ?_;rw[LD,if_neg (by simp[hhas])];rfl
theorem pZ(t:Tab)(pid u:Int)(ht:TabB t):AFn prog 209 [.agg (Ao t), .v (.int .i64 pid), .v (.int .i64 u)] (fun r=>r=Cz (Jn t pid u)):=by
 have h8:=Jt ht pid;refine enter Tryz.func209 rfl rfl rfl rfl rfl 0 rfl ?_;refine E5 (h:=Je (h:=?_));refine A3 rfl (A8 (KK t pid ht) ?_);rintro r rfl;refine H8 (h:=?_);refine A4 rfl (fun hb1 hc1=>?_) (fun hb1 hc1=>?_)
 ·have hno:CS t pid=false:=by simpa using hc1
  refine Bx (h:=?_);refine AX (r:=Cz (Jn t pid u)) none (h5:=?_) (h6:=⟨rfl,rfl,rfl⟩);rw[Jn,if_pos hno];exact GA _
 have hhas:CS t pid=true:=by simpa using hc1
 refine EX (h:=?_);refine A3 rfl (A8 (Ui u) ?_);rintro r rfl;refine D2 (h:=?_);refine A4 rfl (fun hb2 hc2=>?_) (fun hb2 hc2=>?_)
 ·have hid:Kk u=false:=by simpa using hc2
  refine Bx (h:=?_);refine AX (r:=Cz (Jn t pid u)) none (h5:=?_) (h6:=⟨rfl,rfl,rfl⟩);rw[Jn,if_neg (by simp[hhas]),if_pos hid];exact GA _
 have hid:¬Kk u=false:=by simpa using hc2
 refine AG (D7 (h:=Ay (h:=Dt (h:=Eg (h:=m_ (h:=?_))))));refine A3 rfl (A8 (Zp (decide ((AP t pid).euid=0)) (AP t pid).uid (AP t pid).euid u) ?_);rintro r rfl;refine Ge (h:=x_ (h:=Dh (h:=Dh (h:=Bo (h:=Bl (h:=?_))))));refine A4 rfl (fun hb3 hc3=>?_) (fun hb3 hc3=>?_)
 ·have hce:(FP (decide ((AP t pid).euid=0)) (AP t pid).uid (AP t pid).euid u).2.2≠0:=by simpa using hc3
  refine w_ (HL (h:=Dd (h:=?_)));refine AX (r:=Cz (Jn t pid u)) none (h5:=?_) (h6:=⟨rfl,rfl,rfl⟩);rw[Jn,if_neg (by simp[hhas]),if_neg hid,if_pos hce];exact GA _
 have hce:¬(FP (decide ((AP t pid).euid=0)) (AP t pid).uid (AP t pid).euid u).2.2≠0:=by simpa using hc3
 refine AG (CA (h:=?_));refine A3 rfl (A8 (Ng t {AP t pid with uid:=(FP (decide ((AP t pid).euid=0)) (AP t pid).uid (AP t pid).euid u).1,euid:=(FP (decide ((AP t pid).euid=0)) (AP t pid).uid (AP t pid).euid u).2.1} ht (Mv hhas) (by show(AP t pid).opens.length≤1000;omega)) ?_);rintro r rfl;refine s_ (h:=Az (h:=?_));refine A6 ?_;rw[Jn,if_neg (by simp[hhas]),if_neg hid,if_neg hce];rfl
theorem qA(t:Tab)(pid u:Int)(ht:TabB t):AFn prog 210 [.agg (Ao t), .v (.int .i64 pid), .v (.int .i64 u)] (fun r=>r=Cz (Jo t pid u)):=by
 have h8:=Jt ht pid;refine enter Tryz.func210 rfl rfl rfl rfl rfl 0 rfl ?_;refine E5 (h:=Je (h:=?_));refine A3 rfl (A8 (KK t pid ht) ?_);rintro r rfl;refine H8 (h:=?_);refine A4 rfl (fun hb1 hc1=>?_) (fun hb1 hc1=>?_)
 ·have hno:CS t pid=false:=by simpa using hc1
  refine Bx (h:=?_);refine AX (r:=Cz (Jo t pid u)) none (h5:=?_) (h6:=⟨rfl,rfl,rfl⟩);rw[Jo,if_pos hno];exact GA _
 have hhas:CS t pid=true:=by simpa using hc1
 refine EX (h:=?_);refine A3 rfl (A8 (Ui u) ?_);rintro r rfl;refine D2 (h:=?_);refine A4 rfl (fun hb2 hc2=>?_) (fun hb2 hc2=>?_)
 ·have hid:Kk u=false:=by simpa using hc2
  refine Bx (h:=?_);refine AX (r:=Cz (Jo t pid u)) none (h5:=?_) (h6:=⟨rfl,rfl,rfl⟩);rw[Jo,if_neg (by simp[hhas]),if_pos hid];exact GA _
 have hid:¬Kk u=false:=by simpa using hc2
 refine AG (D7 (h:=Ay (h:=Dt (h:=Eg (h:=m_ (h:=?_))))));refine A3 rfl (A8 (Zp (decide ((AP t pid).euid=0)) (AP t pid).gid (AP t pid).egid u) ?_);rintro r rfl;refine Ge (h:=x_ (h:=Dh (h:=Dh (h:=Bo (h:=Bl (h:=?_))))));refine A4 rfl (fun hb3 hc3=>?_) (fun hb3 hc3=>?_)
 ·have hce:(FP (decide ((AP t pid).euid=0)) (AP t pid).gid (AP t pid).egid u).2.2≠0:=by simpa using hc3
  refine w_ (HL (h:=Dd (h:=?_)));refine AX (r:=Cz (Jo t pid u)) none (h5:=?_) (h6:=⟨rfl,rfl,rfl⟩);rw[Jo,if_neg (by simp[hhas]),if_neg hid,if_pos hce];exact GA _
 have hce:¬(FP (decide ((AP t pid).euid=0)) (AP t pid).gid (AP t pid).egid u).2.2≠0:=by simpa using hc3
 refine AG (CA (h:=?_));refine A3 rfl (A8 (Ng t {AP t pid with gid:=(FP (decide ((AP t pid).euid=0)) (AP t pid).gid (AP t pid).egid u).1,egid:=(FP (decide ((AP t pid).euid=0)) (AP t pid).gid (AP t pid).egid u).2.1} ht (Mv hhas) (by show(AP t pid).opens.length≤1000;omega)) ?_);rintro r rfl;refine s_ (h:=Az (h:=?_));refine A6 ?_;rw[Jo,if_neg (by simp[hhas]),if_neg hid,if_neg hce];rfl
theorem qB(t:Tab)(pid u:Int)(ht:TabB t)(hn:Db t):AFn prog 211 [.agg (Ao t), .v (.int .i64 pid), .v (.int .i64 u)] (fun r=>r=Cz (GV t pid u)):=by
 have h8:=Jt ht pid;have hn1:=hn.2;have hn2:=ht.nextS;obtain⟨tp,htp⟩:∃x,x=JS t {AP t pid with auid:=u,ses:=t.nextS}:=⟨_,rfl⟩;have e1:tp.nextS=t.nextS:=by rw[htp];rfl
 have hput:CS t pid=true→AFn prog 250 [.agg (Ao t), .agg (Av {AP t pid with auid:=u,ses:=t.nextS})] (fun r=>r= .agg (Ao tp)):=fun h=>by rw[htp];exact Ng t _ ht (Mv h) (by show(AP t pid).opens.length≤1000;omega)
 refine enter Tryz.func211 rfl rfl rfl rfl rfl 0 rfl ?_;refine E5 (h:=Je (h:=?_));refine A3 rfl (A8 (KK t pid ht) ?_);rintro r rfl;refine H8 (h:=?_);refine A4 rfl (fun hb1 hc1=>?_) (fun hb1 hc1=>?_)
 ·have hno:CS t pid=false:=by simpa using hc1
  refine Bx (h:=?_);refine AX (r:=Cz (GV t pid u)) none (h5:=?_) (h6:=⟨rfl,rfl,rfl⟩);rw[GV,if_pos hno];exact GA _
 have hhas:CS t pid=true:=by simpa using hc1
 refine EX (h:=?_);refine A3 rfl (A8 (Ui u) ?_);rintro r rfl;refine D2 (h:=?_);refine A4 rfl (fun hb2 hc2=>?_) (fun hb2 hc2=>?_)
 ·have hid:Kk u=false:=by simpa using hc2
  refine Bx (h:=?_);refine AX (r:=Cz (GV t pid u)) none (h5:=?_) (h6:=⟨rfl,rfl,rfl⟩);rw[GV,if_neg (by simp[hhas]),if_pos hid];exact GA _
 have hid:¬Kk u=false:=by simpa using hc2
 refine DU (h:=FD (h:=?_));refine AJ true rfl rfl (fun hb3 hc3=>?_) (fun hb3 hc3=>?_)
 ·refine Ce (h:=DS (h:=?_));refine A4 rfl (fun hb4 hc4=>?_) (fun hb4 hc4=>?_)
  ·refine Bx (h:=?_);refine AX (r:=Cz (GV t pid u)) none (h5:=?_) (h6:=⟨rfl,rfl,rfl⟩);rw[GV,if_neg (by simp[hhas]),if_neg hid,if_pos (by first|assumption|omega)];exact GA _
  refine DU (h:=Bd (h:=?_));refine A4 rfl (fun hb5 hc5=>?_) (fun hb5 hc5=>?_)
  ·have hse:t.nextS=1073741824:=hc5;refine Bx (h:=?_);refine AX (r:=Cz (GV t pid u)) none (h5:=?_) (h6:=⟨rfl,rfl,rfl⟩);rw[GV,if_neg (by simp[hhas]),if_neg hid,if_neg (by first|assumption|omega),if_pos hse];exact GA _
  have hse:¬t.nextS=1073741824:=hc5;refine AG (q_ (BR ([(0,Ao t),(1,DZ)]) 7 (h:=AE 0 (h:=AA 1 (h:=A9 2 (h:=AA 3 (h:=?_)))))));refine B8 4 (h:=AA 5 (h:=?_));refine B8 6 (h:=z_ (h:=t_ (w_ (l_ (h:=l_ (h:=?_))))));refine A3 rfl (A8 (hput hhas) ?_);rintro r rfl;refine Dw (h:=Ay (h:=Ec (h:=DF (h:=Di (h:=Az (h:=?_))))));refine A6 ?_;rw[GV,if_neg (by simp[hhas]),if_neg hid,if_neg (by first|assumption|omega),if_neg hse,←htp,←e1];exact congrArg (fun n=>AV.tup [.agg [.v (.int .i64 n), .v (.int .i64 (tp.nextS+1)), .sl 14 (tp.ps.map Av) none], .v (.int .i64 0)]) (by rw[htp];rfl)
 refine Cu (h:=e_ (Hh (h:=DU (h:=Bd (h:=?_)))));refine A4 rfl (fun hb6 hc6=>?_) (fun hb6 hc6=>?_)
 ·have hse:t.nextS=1073741824:=hc6;refine Bx (h:=?_);refine AX (r:=Cz (GV t pid u)) none (h5:=?_) (h6:=⟨rfl,rfl,rfl⟩);rw[GV,if_neg (by simp[hhas]),if_neg hid,if_neg (by first|assumption|omega),if_pos hse];exact GA _
 have hse:¬t.nextS=1073741824:=hc6;refine AG (q_ (BR ([(0,Ao t),(1,DZ)]) 7 (h:=AE 0 (h:=AA 1 (h:=A9 2 (h:=AA 3 (h:=?_)))))));refine B8 4 (h:=AA 5 (h:=?_));refine B8 6 (h:=z_ (h:=t_ (w_ (l_ (h:=l_ (h:=?_))))));refine A3 rfl (A8 (hput hhas) ?_);rintro r rfl;refine Dw (h:=Ay (h:=Ec (h:=DF (h:=Di (h:=Az (h:=?_))))));refine A6 ?_;rw[GV,if_neg (by simp[hhas]),if_neg hid,if_neg (by first|assumption|omega),if_neg hse,←htp,←e1];exact congrArg (fun n=>AV.tup [.agg [.v (.int .i64 n), .v (.int .i64 (tp.nextS+1)), .sl 14 (tp.ps.map Av) none], .v (.int .i64 0)]) (by rw[htp];rfl)
theorem qC(t:Tab)(pid fd:Int)(ht:TabB t):AFn prog 212 [.agg (Ao t), .v (.int .i64 pid), .v (.int .i64 fd)] (fun r=>r=Cz (Kl t pid fd)):=by
 have h8:=Jt ht pid;have hol:((AP t pid).opens.map Gu).length=(AP t pid).opens.length:=List.length_map _;refine enter Tryz.func212 rfl rfl rfl rfl rfl 0 rfl ?_;refine E5 (h:=Je (h:=?_));refine A3 rfl (A8 (KK t pid ht) ?_);rintro r rfl;refine H8 (h:=?_);refine A4 rfl (fun hb1 hc1=>?_) (fun hb1 hc1=>?_)
 ·have hno:CS t pid=false:=by simpa using hc1
  refine Bx (h:=?_);refine AX (r:=Cz (Kl t pid fd)) none (h5:=?_) (h6:=⟨rfl,rfl,rfl⟩);rw[Kl,if_pos hno];exact GA _
 have hhas:CS t pid=true:=by simpa using hc1
 refine AG (D7 (h:=DT (h:=?_)));refine N6 10 291 4 rfl (by repeat constructor) ?_;refine BM (fun m s=>∃(j:Nat) (acc:List Dsc),j≤(AP t pid).opens.length∧m=(AP t pid).opens.length - j∧((AP t pid).opens.take j).filter (fun d=>decide (d.fd≠fd))=acc∧acc.length≤j∧s=⟨look [(2, .v (.int .i64 fd)),(3, .bp 0 0),(6, .bp 1 0),(8, .bp 2 0),(10, .sl 4 (acc.map Gu) (some 0)),(11, .v (.int .i64 (j:Int)))],⟨[Ao t,DZ,Av (AP t pid)],[(291,4,acc.map Gu)]⟩⟩) ((AP t pid).opens.length) ((wk 3 1)) (⟨0,[],BE _,rfl,rfl,B7 _,rfl⟩) ?_;rintro m s ⟨j,acc,hj,rfl,hacc,hal,rfl⟩;refine Fz (h:=?_);refine A4 rfl (fun hb2 hc2=>?_) (fun hb2 hc2=>?_)
 ·obtain⟨hlt,x,hy,hrow, -⟩:=Br Gu hc2;refine By (h:=H9 (h:=AO (h:=m_ (h:=Bl (h:=?_)))));refine A4 rfl (fun hb3 hc3=>?_) (fun hb3 hc3=>?_)
  ·have hne:x.fd≠fd:=by simpa using hc3
   have hk:((AP t pid).opens.take (j+1)).filter (fun d=>decide (d.fd≠fd))=acc++[x]:=by rw[List.take_add_one,hy,List.filter_append,hacc];simp[hne]
   refine C2 (h:=AO (h:=GG (h:=l_ (h:=BX (h:=?_)))));refine A3 rfl (EF rfl rfl rfl (by simp;omega) (by repeat constructor) ?_);refine H6 (h:=Ef (h:=?_));exact⟨(AP t pid).opens.length - (j+1),_,by omega,⟨j+1,acc++[x],by omega,rfl,hk,by simp;omega,rfl⟩,(by rw[List.map_append];exact Ah 3 1 rfl rfl rfl rfl ((by repeat (first|exact Sub.nil|refine Ai rfl rfl ?_|refine Ap ?_|refine Aq rfl ?_|refine Ar rfl ?_))))⟩
  have hne:x.fd=fd:=by simpa using hc3
  have hk:((AP t pid).opens.take (j+1)).filter (fun d=>decide (d.fd≠fd))=acc:=by rw[List.take_add_one,hy,List.filter_append,hacc];simp[hne]
  refine Cm (h:=?_)
  first|exact⟨(AP t pid).opens.length - (j+1),_,by omega,⟨j+1,acc++[x],by omega,rfl,hk,by simp;omega,rfl⟩,(by rw[List.map_append];exact Ah 3 1 rfl rfl rfl rfl ((by repeat (first|exact Sub.nil|refine Ai rfl rfl ?_|refine Ap ?_|refine Aq rfl ?_|refine Ar rfl ?_))))⟩|exact⟨(AP t pid).opens.length - (j+1),_,by omega,⟨j+1,acc,by omega,rfl,hk,by omega,rfl⟩,Ah 3 1 rfl rfl rfl rfl ((by repeat (first|exact Sub.nil|refine Ai rfl rfl ?_|refine Ap ?_|refine Aq rfl ?_|refine Ar rfl ?_)))⟩
 have e:=C6 Gu hj hc2;subst e;rw[List.take_length]at hacc;refine CP (h:=Bf (h:=n_ (h:=AO (h:=n_ (h:=Bd (h:=?_))))));refine A4 rfl (fun hb4 hc4=>?_) (fun hb4 hc4=>?_)
 ·have hln:(((AP t pid).opens.filter fun d=>decide (d.fd≠fd)).length:Int)=((AP t pid).opens.length:Int):=by rw[hacc];simpa using hc4
  refine Bx (h:=?_);refine AX (r:=Cz (Kl t pid fd)) none (h5:=?_) (h6:=⟨rfl,rfl,rfl⟩);rw[Kl,if_neg (by simp[hhas]),if_pos hln];exact GA _
 have hln:¬(((AP t pid).opens.filter fun d=>decide (d.fd≠fd)).length:Int)=((AP t pid).opens.length:Int):=by rw[hacc];simpa using hc4
 refine AG (Aa (h:=DF (h:=C4 (h:=?_))));refine A3 rfl (Hf (y:= .agg (Av {AP t pid with opens:=(AP t pid).opens.filter fun d=>decide (d.fd≠fd)})) (KV rfl rfl rfl ⟨rfl,rfl⟩) (Yq _ _ _ _ (by rw[hacc])) ?_);refine A3 rfl (A8 (Ng t {AP t pid with opens:=(AP t pid).opens.filter fun d=>decide (d.fd≠fd)} ht (Mv hhas) (by have:=List.length_filter_le (fun d:Dsc=>decide (d.fd≠fd)) (AP t pid).opens;show((AP t pid).opens.filter _).length≤1000;omega)) ?_);rintro r rfl;refine s_ (h:=Az (h:=?_));refine A6 ?_;rw[Kl,if_neg (by simp[hhas]),if_neg hln];rfl
theorem Zq(t:Tab)(pid:Int)(ht:TabB t):AFn prog 208 [.agg (Ao t), .v (.int .i64 pid)] (fun r=>r=Cz (Jm t pid)):=by
 have hfew:=ht.few;refine enter Tryz.func208 rfl rfl rfl rfl rfl 0 rfl ?_;refine E5 (h:=BO (h:=q_ (L0 (h:=?_))));refine A3 rfl (A8 (KK t pid ht) ?_);rintro r rfl;refine Ee (h:=Bt (h:=D2 (h:=?_)));refine A4 rfl (fun hb1 hc1=>?_) (fun hb1 hc1=>?_)
 ·have hno:CS t pid=false:=by simpa using hc1
  refine Bx (h:=?_);refine AX (r:=Cz (Jm t pid)) none (h5:=?_) (h6:=⟨rfl,rfl,rfl⟩);rw[Jm,if_pos hno];exact GA _
 have hhas:CS t pid=true:=by simpa using hc1
 refine EX (h:=Bd (h:=?_));refine A4 rfl (fun hb2 hc2=>?_) (fun hb2 hc2=>?_)
 ·have h1:pid=1:=hc2;refine Bx (h:=?_);refine AX (r:=Cz (Jm t pid)) none (h5:=?_) (h6:=⟨rfl,rfl,rfl⟩);rw[Jm,if_neg (by simp[hhas]),if_pos h1];exact GA _
 have h1:¬pid=1:=hc2;refine FY (h:=AO (h:=Bk (h:=Dw (h:=DT (h:=?_)))));refine Ls 3 2 29 14 rfl rfl (by repeat constructor) (by repeat constructor) (by repeat constructor) ?_;refine BM (fun m s=>∃(j:Nat) (acc:List Prc),j≤t.ps.length∧m=t.ps.length - j∧((t.ps.take j).filter fun p=>decide (p.pid≠pid)).map (Jl pid)=acc∧acc.length≤j∧s=⟨look [(1, .v (.int .i64 pid)),(2, .bp 0 0),(4, .bp 1 0),(8, .bp 3 0),(9, .v (.int .i64 (j:Int)))],⟨[Ao t,DZ,Av (AP t pid),Da t (.sl 14 (acc.map Av) (some 0))],[(29,14,acc.map Av)]⟩⟩) (t.ps.length) ((wk 4 1)) (⟨0,[],BE _,rfl,rfl,B7 _,rfl⟩) ?_;rintro m s ⟨j,acc,hj,rfl,hacc,hal,rfl⟩;refine Fz (h:=?_);refine A4 rfl (fun hb3 hc3=>?_) (fun hb3 hc3=>?_)
 ·obtain⟨hlt,x,hy,hrow, -⟩:=Br Av hc3;have hop:x.opens.length≤1000:=by have:=ht.opens x (Am hy);omega
  have hk:=pW hy hacc;refine By (h:=H9 (h:=l_ (h:=?_)));refine A3 rfl (A8 (Pk x hop) ?_);rintro r rfl;refine Dw (h:=?_);refine BC (fun s=>s=⟨look [(1, .v (.int .i64 pid)),(2, .bp 0 0),(4, .bp 1 0),(8, .bp 3 0),(9, .v (.int .i64 (j:Int))),(10, .bp 4 0)],⟨[Ao t,DZ,Av (AP t pid),Da t (.sl 14 (acc.map Av) (some 0)),Av (Jl pid x)],[(29,14,acc.map Av)]⟩⟩) ?_ ?_
  ·skip
   refine Ay (h:=CE (h:=e_ (?_)));refine A4 rfl (fun hb4 hc4=>?_) (fun hb4 hc4=>?_)
   ·have hpp:x.ppid=pid:=hc4;refine Aw (Jf (h:=?_));refine⟨_,rfl,?_⟩;unfold Jl
    (rw[if_pos hpp];exact Ah 5 1 rfl rfl rfl rfl ((by repeat (first|exact Sub.nil|refine Ai rfl rfl ?_|refine Ap ?_|refine Aq rfl ?_|refine Ar rfl ?_))))
   have hpp:¬x.ppid=pid:=hc4;refine BG (AR (?_));refine⟨_,rfl,?_⟩;unfold Jl
   first|(rw[if_pos hpp];exact Ah 5 1 rfl rfl rfl rfl ((by repeat (first|exact Sub.nil|refine Ai rfl rfl ?_|refine Ap ?_|refine Aq rfl ?_|refine Ar rfl ?_))))|(rw[if_neg hpp];exact Ah 5 1 rfl rfl rfl rfl ((by repeat (first|exact Sub.nil|refine Ai rfl rfl ?_|refine Ap ?_|refine Aq rfl ?_|refine Ar rfl ?_))))
  rintro s rfl;have hop2:(Jl pid x).pid=x.pid:=by unfold Jl;split<;>rfl
  refine Ay (h:=m_ (h:=Bl (h:=?_)));refine A4 rfl (fun hb5 hc5=>?_) (fun hb5 hc5=>?_)
  ·have hpe:x.pid≠pid:=by rw[←hop2];simpa using hc5
   rw[if_pos hpe]at hk;refine Aw (AO (h:=l_ (h:=BX (h:=?_))));refine A3 rfl (EF rfl rfl rfl (by simp;omega) (by repeat constructor) ?_);refine Dh (h:=Bw (Ef (h:=?_)));exact⟨t.ps.length - (j+1),_,by omega,⟨j+1,acc++[Jl pid x],by omega,rfl,hk,by simp;omega,rfl⟩,(by rw[List.map_append];exact Ah 4 1 rfl rfl rfl rfl ((by repeat (first|exact Sub.nil|refine Ai rfl rfl ?_|refine Ap ?_|refine Aq rfl ?_|refine Ar rfl ?_))))⟩
  have hpe:¬x.pid≠pid:=by rw[←hop2];simpa using hc5
  rw[if_neg hpe]at hk;refine Cm (h:=?_)
  first|exact⟨t.ps.length - (j+1),_,by omega,⟨j+1,acc++[Jl pid x],by omega,rfl,hk,by simp;omega,rfl⟩,(by rw[List.map_append];exact Ah 4 1 rfl rfl rfl rfl ((by repeat (first|exact Sub.nil|refine Ai rfl rfl ?_|refine Ap ?_|refine Aq rfl ?_|refine Ar rfl ?_))))⟩|exact⟨t.ps.length - (j+1),_,by omega,⟨j+1,acc,by omega,rfl,hk,by omega,rfl⟩,Ah 4 1 rfl rfl rfl rfl ((by repeat (first|exact Sub.nil|refine Ai rfl rfl ?_|refine Ap ?_|refine Aq rfl ?_|refine Ar rfl ?_)))⟩
 have e:=C6 Av hj hc3;subst e;rw[List.take_length]at hacc;refine CP (h:=Di (h:=Az (h:=?_)));refine AX (r:=Cz (Jm t pid)) none (h5:=?_) (h6:=⟨rfl,rfl,rfl⟩);rw[Jm,if_neg (by simp[hhas]),if_neg h1,hacc];exact LeA.tup (.cons (LeA.agg (.cons (A7 _) (.cons (A7 _) (.cons (LeA.tok _ _ _) .nil)))) (.cons (A7 _) .nil))
theorem qD(t:Tab)(pid q:Int)(b:Bool)(ht:TabB t):AFn prog 214 [.agg (Ao t), .v (.int .i64 pid), .v (.int .i64 q), .v (.bool b)] (fun r=>r=Cz (JT t pid q b)):=by
 refine enter Tryz.func214 rfl rfl rfl rfl rfl 0 rfl ?_;refine E5 (h:=Je (h:=?_));refine A3 rfl (A8 (KK t pid ht) ?_);rintro r rfl;refine H8 (h:=?_);refine A4 rfl (fun hb1 hc1=>?_) (fun hb1 hc1=>?_)
 ·have hno:CS t pid=false:=by simpa using hc1
  refine Bx (h:=?_);refine AX (r:=Cz (JT t pid q b)) none (h5:=?_) (h6:=⟨rfl,rfl,rfl⟩);rw[JT,if_pos hno];exact GA _
 have hhas:CS t pid=true:=by simpa using hc1
 refine AG (L0 (h:=?_));refine A3 rfl (A8 (KK t q ht) ?_);rintro r rfl;refine H8 (h:=?_);refine A4 rfl (fun hb2 hc2=>?_) (fun hb2 hc2=>?_)
 ·have hno2:CS t q=false:=by simpa using hc2
  refine Bx (h:=?_);refine AX (r:=Cz (JT t pid q b)) none (h5:=?_) (h6:=⟨rfl,rfl,rfl⟩);rw[JT,if_neg (by simp[hhas]),if_pos hno2];exact GA _
 have hhas2:CS t q=true:=by simpa using hc2
 refine Eh (h:=?_);refine BC (fun S=>S=⟨look [(2, .v (.int .i64 q)),(3, .v (.bool b)),(4, .bp 0 0),(8, .bp 1 0),(44, .v (.bool (decide (q=1∨(AP t pid).euid≠0∧(AP t pid).euid≠(AP t q).uid))))],⟨[Ao t,DZ],[]⟩⟩) ?_ ?_
 ·skip
  refine C2 (h:=E4 (h:=?_));refine AJ false rfl rfl (fun hb3 hc3=>?_) (fun hb3 hc3=>?_)
  ·refine BB (h:=Ka (h:=Fx (h:=FE (h:=?_))));exact⟨_,rfl,CM 2 0 rfl⟩
  refine GJ (h:=?_);refine AJ true rfl rfl (fun hb4 hc4=>?_) (fun hb4 hc4=>?_)
  ·refine AO (h:=Ce (h:=CD (h:=EJ (h:=?_))));exact⟨_,rfl,CM 2 0 rfl⟩
  refine GM (h:=EJ (h:=?_));exact⟨_,rfl,CM 2 0 rfl⟩
 rintro S rfl;refine A4 rfl (fun hb5 hc5=>?_) (fun hb5 hc5=>?_)
 ·refine Bx (h:=?_);refine AX (r:=Cz (JT t pid q b)) none (h5:=?_) (h6:=⟨rfl,rfl,rfl⟩);rw[JT,if_neg (by simp[hhas]),if_neg (by simp[hhas2]),if_pos (by first|assumption|simpa using ‹_›)];exact GA _
 refine EX (h:=e_ (?_));refine A4 rfl (fun hb6 hc6=>?_) (fun hb6 hc6=>?_)
 ·have hb:b=true:=hc6;refine L0 (h:=?_);refine A3 rfl (A8 (Zq t q ht) ?_);rintro r rfl;refine Ky (h:=s_ (h:=Dd (h:=?_)));refine A6 ?_;rw[JT,if_neg (by simp[hhas]),if_neg (by simp[hhas2]),if_neg (by first|assumption|simpa using ‹_›),if_pos hb];rfl
 have hb:¬b=true:=by simpa using hc6
 refine AG (C4 (h:=?_));refine A3 rfl (A8 (YU t ht) ?_);rintro r rfl;refine s_ (h:=Az (h:=?_));refine A6 ?_;rw[JT,if_neg (by simp[hhas]),if_neg (by simp[hhas2]),if_neg (by first|assumption|simpa using ‹_›),if_neg hb];rfl
theorem qE(t:Tab)(pid:Int)(ht:TabB t)(hn:Db t):AFn prog 207 [.agg (Ao t), .v (.int .i64 pid)] (fun r=>r=MG (Gr t pid)):=by
 have hfew:=ht.few;have hn1:=hn.1;have hn2:=ht.next;have hpl:(t.ps.map Av).length=t.ps.length:=List.length_map _;obtain⟨p,hp⟩:∃p:Prc,p={AP t pid with pid:=t.next,ppid:=pid}:=⟨_,rfl⟩;have hlen:(t.ps++[p]).length=t.ps.length+1:=by simp
 obtain⟨tF,htF⟩:∃x:Tab,x=⟨t.next+1,t.nextS,t.ps++[p]⟩:=⟨_,rfl⟩;refine enter Tryz.func207 rfl rfl rfl rfl rfl 0 rfl ?_;refine E5 (h:=a_ (h:=Je (h:=?_)));refine A3 rfl (A8 (KK t pid ht) ?_);rintro r rfl;refine H8 (h:=?_);refine A4 rfl (fun hb1 hc1=>?_) (fun hb1 hc1=>?_)
 ·have hno:CS t pid=false:=by simpa using hc1
  refine FF (h:=?_);refine AX (r:=MG (Gr t pid)) none (h5:=?_) (h6:=⟨rfl,rfl,rfl⟩);rw[Gr,if_pos hno];exact Pn _ _
 have hhas:CS t pid=true:=by simpa using hc1
 refine DU (h:=n_ (h:=DR (h:=m_ (h:=?_))));refine AJ false rfl rfl (fun hb2 hc2=>?_) (fun hb2 hc2=>?_)
 ·refine EM (h:=E3 (h:=FF (h:=?_)));refine AX (r:=MG (Gr t pid)) none (h5:=?_) (h6:=⟨rfl,rfl,rfl⟩);rw[Gr,if_neg (by simp[hhas]),if_pos (by first|assumption|omega)];exact Pn _ _
 refine CN (h:=CO (h:=?_));refine A4 rfl (fun hb3 hc3=>?_) (fun hb3 hc3=>?_)
 ·refine FF (h:=?_);refine AX (r:=MG (Gr t pid)) none (h5:=?_) (h6:=⟨rfl,rfl,rfl⟩);rw[Gr,if_neg (by simp[hhas]),if_pos (by first|assumption|omega)];exact Pn _ _
 refine AG (?_);refine BC (fun s=>s=⟨look [(2, .bp 0 0),(4, .bp 1 0),(7, .bp 2 0)],⟨[Ao t,DZ,Av p],[]⟩⟩) ?_ ?_
 ·skip
  refine Aw (AO (h:=m_ (h:=Dh (h:=Jf (h:=?_)))));rw[hp];exact⟨_,rfl,Ah 3 0 rfl rfl rfl rfl ((by repeat (first|exact Sub.nil|refine Ai rfl rfl ?_|refine Ap ?_|refine Aq rfl ?_|refine Ar rfl ?_)))⟩
 rintro s rfl;refine BC (fun s=>∃cap,t.ps.length≤cap∧s=⟨look [(4, .bp 1 0),(7, .bp 2 0),(9, .bp 3 0)],⟨[Ao t,DZ,Av p,Da t (.bs 4 0 14 t.ps.length cap),LB 14 Av t.ps cap],[]⟩⟩) ?_ ?_
 ·skip
  refine Aw (l_ (h:=?_));refine A3 rfl (Bj [] rfl (.cons _ _ _ _ _ rfl (A7 _) .nil) (by decide) .nil (YV t ht (Mv hhas)) ?_);rintro r bc tc ⟨rfl,cap,hcap,rfl,rfl⟩;refine⟨rfl,_,(YT (n:=3) rfl t cap:Back _ [] _ [_,_,_,_,_,_,_]),?_⟩;refine Mf (h:=GH (h:=?_));exact⟨_,⟨cap,hcap,rfl⟩,Ga [0,1,2,7,6] (fun i hi=>absurd hi (Nat.not_lt_zero i)) (by decide) (.cons _ _ _ _ _ rfl rfl (.cons _ _ _ _ _ rfl rfl (.cons _ _ _ _ _ rfl rfl (.cons _ _ _ _ _ rfl rfl (.cons _ _ _ _ _ rfl (MD Em _ _ _) .nil))))) (by repeat (first|exact SubK.nil|refine SubK.cons _ _ _ _ rfl (A7 _) ?_))⟩
 rintro s ⟨cap,hcp,rfl⟩;refine Ay (h:=Ec (h:=DF (h:=?_)));refine BC (fun s=>s=⟨look [(4, .bp 1 0),(7, .bp 2 0),(9, .bp 3 0)],⟨[Ao t,DZ,Av p,Ao tF],[]⟩⟩) ?_ ?_
 ·skip
  refine Aw (AO (h:=l_ (h:=BX (h:=?_))));refine A3 rfl (O0 rfl rfl rfl (by rw[Ri Em hcp];omega) M7 (by omega) (by omega) ?_ ?_)
  ·rintro hg row2 bx2 hs hb;obtain rfl:=UK Em hs hg;obtain rfl:bx2=[_,_,_,_,_]:=hb.one.2;have hcpx:(t.ps++[p]).length≤cap:=by simpa using hg
   refine Jf (h:=?_);rw[htF];refine⟨_,rfl,?_⟩;rw[←hlen];exact Hg 4 1 rfl (congrArg (fun x=>[Ao t,DZ,Av p,[.v (.int .i64 (t.next+1)), .v (.int .i64 t.nextS),x]]) (OX (l:=t.ps++[p]) Em rfl rfl hcpx)) (.cons _ _ _ _ rfl (A7 _) (.cons _ _ _ _ rfl (A7 _) (.cons _ _ _ _ rfl (A7 _) .nil)))
  rintro hg cap3 k bx2 hcp3 hs;rw[show((LB 14 Av t.ps cap).drop 0).take (t.ps.length * 14)++CX (.agg (Av p))++List.replicate ((cap3 - (t.ps.length+1)) * 14) AV.any=LB 14 Av (t.ps++[p]) cap3 from UJ Em t.ps p cap cap3]at hs;obtain⟨rfl,rfl⟩:k=5∧bx2=[_,_,_,_,_,_]:=hs.eq;have hcpx:(t.ps++[p]).length≤cap3:=by simpa using hcp3
  refine Jf (h:=?_);rw[htF];refine⟨_,rfl,?_⟩;rw[←hlen];exact Hg 4 1 rfl (congrArg (fun x=>[Ao t,DZ,Av p,[.v (.int .i64 (t.next+1)), .v (.int .i64 t.nextS),x]]) (OX (l:=t.ps++[p]) Em rfl rfl hcpx)) (.cons _ _ _ _ rfl (A7 _) (.cons _ _ _ _ rfl (A7 _) (.cons _ _ _ _ rfl (A7 _) .nil)))
 rintro s rfl;refine q_ (BR ([(0,Ao t),(2,Av p),(3,Ao tF)]) 6 (h:=A9 0 (h:=AA 1 (h:=A9 2 (h:=?_)))));refine B8 3 (h:=B9 4 (h:=B9 5 (h:=z_ (h:=t_ (B3 (?_))))));refine A6 ?_;rw[Gr,if_neg (by simp[hhas]),if_neg (by first|assumption|omega),←hp,←htF];rw[hp];rfl
end
section
theorem Rz(w:Wrk)(cap:Nat)(f:Fnd)(hv:SpcV w.s.spc)(hm:w.s.spc.mounts.length≤1000)(htb:TabB w.s.tab)(hf:w.found[0]?=some f):ACall prog 150 [.bp 0 0] [WA w cap,IB w cap] (fun r b t=>t=[]∧r= .v (.int .i64 (Dz w).2)∧b=[WA (Dz w).1 cap,IB (Dz w).1 cap]):=by
 have hsb:=hv.b hm;have hrow0:(w.found.map Al)[0]?=some (Al f):=by rw[List.getElem?_map,hf];rfl
 have hfn:B0 w 0=f:=by unfold B0;rw[hf];rfl
 have hre:Dz w=if f.ex=false then(w,2)else if w.c.num=1 then(if Ac w.s.spc.files f.file=true∨CH w f.file 1=false then(w,13)else CJ w (LD w.s.tab w.p.pid f.path f.name))else if w.c.num=16 then(if Ac w.s.spc.files f.file=false then(w,20)else if CH w f.file 1=false then(w,13)else CJ w (LC w.s.tab w.p.pid f.file))else if w.c.num=17 then(if Ac w.s.spc.files f.file=false then(w,20)else Lg w (ER w.s.spc w.c.a0 f.file))else if Ac w.s.spc.files f.file=true then(w,21)else if CH w f.file 2=false then(w,13)else(w,0):=by
  unfold Dz Kn;rw[hfn]
 obtain⟨T1,hT1⟩:∃T,T=LD w.s.tab w.p.pid f.path f.name:=⟨_,rfl⟩;obtain⟨T2,hT2⟩:∃T,T=LC w.s.tab w.p.pid f.file:=⟨_,rfl⟩;obtain⟨R,hR⟩:∃R,R=ER w.s.spc w.c.a0 f.file:=⟨_,rfl⟩;have hexec:AFn prog 205 [.agg (Ao w.s.tab), .v (.int .i64 w.p.pid), .v (.string f.path), .v (.string f.name)] (fun r=>r=Cz T1):=by rw[hT1];exact pY _ _ _ _ htb
 have hchd:AFn prog 206 [.agg (Ao w.s.tab), .v (.int .i64 w.p.pid), .agg (AB f.file)] (fun r=>r=Cz T2):=by rw[hT2];exact pX _ _ _ htb
 have hadd:AFn prog 76 [.agg (AW w.s.spc), .v (.int .i64 w.c.a0), .agg (AB f.file)] (fun r=>r=Hc R):=by rw[hR];exact iM _ _ _ hsb
 rw[←hT1,←hT2,←hR]at hre;clear hT1 hT2 hR;refine enter Tryz.func150 rfl rfl rfl rfl rfl 2 rfl ?_;refine EL (h:=k_ (h:=AO (h:=?_)));refine A3 rfl (DE (n:=0) rfl rfl rfl hrow0 ?_);refine Jb (h:=Fh (h:=D2 (h:=?_)));refine A4 rfl (fun hb1 hc1=>?_) (fun hb1 hc1=>?_)
 ·have k1:f.ex=false:=by simpa using hc1
  refine BK (h:=?_);refine BU (r:= .v (.int .i64 (Dz w).2)) none (h5:=(by rw[hre,if_pos k1];exact A7 _)) (h6:=⟨rfl,rfl,?_⟩);rw[hre,if_pos k1];rfl
 have k1:¬f.ex=false:=by simpa using hc1
 refine EX (h:=Dj (h:=e_ (BF (Ak (h:=?_)))));refine A4 rfl (fun hb2 hc2=>?_) (fun hb2 hc2=>?_)
 ·have k2:w.c.num=1:=hc2;refine q_ (?_);refine BC (fun S=>S=⟨look [(0, .bp 0 0),(3, .bp 2 0),(30, .v (.bool (Ac w.s.spc.files f.file|| !CH w f.file 1)))],⟨[WA w cap,IB w cap,Al f],[]⟩⟩) ?_ ?_
  ·skip
   refine C2 (h:=?_);refine A3 rfl (Ds 1 rfl (.cons _ _ _ _ _ rfl (LeA.of_eq rfl) (.cons _ _ _ _ _ rfl (A7 _) .nil)) (Mx w .any 0 f hsb hf) ?_);rintro r rfl;refine⟨rfl,?_⟩;refine m_ (h:=?_);refine AJ false rfl rfl (fun hb3 hc3=>?_) (fun hb3 hc3=>?_)
   ·refine BY (h:=JO (h:=?_));exact⟨_,rfl,CM 3 0 (by simp[AY,AT,AQ,Bq B5,BD,WA,IB,Cq,Al,AZ,AB,Ao,AW,Au])⟩
   refine m_ (h:=AO (h:=?_));refine As (Ds 1 rfl (.cons _ _ _ _ _ rfl (LeA.of_eq rfl) (.cons _ _ _ _ _ rfl (A7 _) (.cons _ _ _ _ _ rfl (A7 _) .nil))) (LG w .any f.file 1 hsb) ?_);rintro r rfl;refine⟨rfl,?_⟩;refine Ck (h:=EJ (h:=?_));exact⟨_,rfl,CM 3 0 (by simp[AY,AT,AQ,Bq B5,BD,WA,IB,Cq,Al,AZ,AB,Ao,AW,Au])⟩
  rintro S rfl;refine A4 rfl (fun hb4 hc4=>?_) (fun hb4 hc4=>?_)
  ·have k5:Ac w.s.spc.files f.file=true∨CH w f.file 1=false:=by simpa using hc4
   refine BK (h:=D8 (h:=?_));refine BU (r:= .v (.int .i64 (Dz w).2)) none (h5:=(by rw[hre,if_neg k1,if_pos k2,if_pos k5];exact A7 _)) (h6:=⟨rfl,rfl,?_⟩);rw[hre,if_neg k1,if_pos k2,if_pos k5];rfl
  have k5:¬(Ac w.s.spc.files f.file=true∨CH w f.file 1=false):=by simpa using hc4
  refine AG (q_ (BR ([(0,WA w cap),(1,IB w cap),(2,Al f)]) 18 (h:=AE 0 (h:=AE 1 (h:=BL 2 (h:=AA 3 (h:=AA 4 (h:=A9 5 (h:=AE 6 (h:=BL 7 (h:=AA 8 (h:=AA 9 (h:=A9 10 (h:=AA 11 (h:=A9 12 (h:=AA 13 (h:=A9 14 (h:=?_))))))))))))))))));refine c_ 15 rfl (A8 (hexec) ?_);rintro r rfl;refine o_ (h:=BH 16 (h:=BH 17 (h:=?_)));refine c_ 18 rfl (Bj [0,1] rfl (.cons _ _ _ _ _ rfl (A7 _) (.cons _ _ _ _ _ rfl (A7 _) (.cons _ _ _ _ _ rfl (A7 _) .nil))) (by decide) (.cons _ _ _ _ _ rfl rfl (.cons _ _ _ _ _ rfl (Dg B5 _ _ _) .nil)) (UT w cap T1.1 T1.2) ?_);rintro r bc tc ⟨rfl,rfl,rfl⟩;refine⟨rfl,_,E8 rfl ((CJ w T1).1) cap,?_⟩;refine o_ (h:=?_);refine c_ 19 rfl (J9 rfl ?_);refine HG (h:=t_ (B3 (D8 (h:=?_))));refine BU (r:= .v (.int .i64 (Dz w).2)) none (h5:=(by rw[hre,if_neg k1,if_pos k2,if_neg k5,Li];exact A7 _)) (h6:=⟨rfl,rfl,?_⟩);rw[hre,if_neg k1,if_pos k2,if_neg k5];rfl
 have k2:¬w.c.num=1:=hc2;refine Ak (h:=?_);refine A4 rfl (fun hb5 hc5=>?_) (fun hb5 hc5=>?_)
 ·have k3:w.c.num=16:=hc5;refine Bf (h:=?_);refine A3 rfl (Ds 1 rfl (.cons _ _ _ _ _ rfl (LeA.of_eq rfl) (.cons _ _ _ _ _ rfl (A7 _) .nil)) (Mx w .any 0 f hsb hf) ?_);rintro r rfl;refine⟨rfl,?_⟩;refine D2 (h:=?_);refine A4 rfl (fun hb6 hc6=>?_) (fun hb6 hc6=>?_)
  ·have k5:Ac w.s.spc.files f.file=false:=by simpa using hc6
   refine BK (h:=D8 (h:=?_));refine BU (r:= .v (.int .i64 (Dz w).2)) none (h5:=(by rw[hre,if_neg k1,if_neg k2,if_pos k3,if_pos k5];exact A7 _)) (h6:=⟨rfl,rfl,?_⟩);rw[hre,if_neg k1,if_neg k2,if_pos k3,if_pos k5];rfl
  have k5:¬Ac w.s.spc.files f.file=false:=by simpa using hc6
  refine AG (Mg (h:=?_));refine A3 rfl (Ds 1 rfl (.cons _ _ _ _ _ rfl (LeA.of_eq rfl) (.cons _ _ _ _ _ rfl (A7 _) (.cons _ _ _ _ _ rfl (A7 _) .nil))) (LG w .any f.file 1 hsb) ?_);rintro r rfl;refine⟨rfl,?_⟩;refine D2 (h:=?_);refine A4 rfl (fun hb7 hc7=>?_) (fun hb7 hc7=>?_)
  ·have k6:CH w f.file 1=false:=by simpa using hc7
   refine BK (h:=D8 (h:=?_));refine BU (r:= .v (.int .i64 (Dz w).2)) none (h5:=(by rw[hre,if_neg k1,if_neg k2,if_pos k3,if_neg k5,if_pos k6];exact A7 _)) (h6:=⟨rfl,rfl,?_⟩);rw[hre,if_neg k1,if_neg k2,if_pos k3,if_neg k5,if_pos k6];rfl
  have k6:¬CH w f.file 1=false:=by simpa using hc7
  refine AG (q_ (BR ([(0,WA w cap),(1,IB w cap),(2,Al f)]) 16 (h:=AE 0 (h:=AE 1 (h:=BL 2 (h:=AA 3 (h:=AA 4 (h:=A9 5 (h:=AE 6 (h:=BL 7 (h:=AA 8 (h:=AA 9 (h:=A9 10 (h:=AA 11 (h:=A9 12 (h:=?_))))))))))))))));refine c_ 13 rfl (A8 (hchd) ?_);rintro r rfl;refine o_ (h:=BH 14 (h:=BH 15 (h:=?_)));refine c_ 16 rfl (Bj [0,1] rfl (.cons _ _ _ _ _ rfl (A7 _) (.cons _ _ _ _ _ rfl (A7 _) (.cons _ _ _ _ _ rfl (A7 _) .nil))) (by decide) (.cons _ _ _ _ _ rfl rfl (.cons _ _ _ _ _ rfl (Dg B5 _ _ _) .nil)) (UT w cap T2.1 T2.2) ?_);rintro r bc tc ⟨rfl,rfl,rfl⟩;refine⟨rfl,_,E8 rfl ((CJ w T2).1) cap,?_⟩;refine o_ (h:=?_);refine c_ 17 rfl (J9 rfl ?_);refine HG (h:=t_ (B3 (D8 (h:=?_))));refine BU (r:= .v (.int .i64 (Dz w).2)) none (h5:=(by rw[hre,if_neg k1,if_neg k2,if_pos k3,if_neg k5,if_neg k6,Li];exact A7 _)) (h6:=⟨rfl,rfl,?_⟩);rw[hre,if_neg k1,if_neg k2,if_pos k3,if_neg k5,if_neg k6];rfl
 have k3:¬w.c.num=16:=hc5;refine Ak (h:=?_);refine A4 rfl (fun hb8 hc8=>?_) (fun hb8 hc8=>?_)
 ·have k4:w.c.num=17:=hc8;refine Bf (h:=?_);refine A3 rfl (Ds 1 rfl (.cons _ _ _ _ _ rfl (LeA.of_eq rfl) (.cons _ _ _ _ _ rfl (A7 _) .nil)) (Mx w .any 0 f hsb hf) ?_);rintro r rfl;refine⟨rfl,?_⟩;refine D2 (h:=?_);refine A4 rfl (fun hb9 hc9=>?_) (fun hb9 hc9=>?_)
  ·have k5:Ac w.s.spc.files f.file=false:=by simpa using hc9
   refine BK (h:=D8 (h:=?_));refine BU (r:= .v (.int .i64 (Dz w).2)) none (h5:=(by rw[hre,if_neg k1,if_neg k2,if_neg k3,if_pos k4,if_pos k5];exact A7 _)) (h6:=⟨rfl,rfl,?_⟩);rw[hre,if_neg k1,if_neg k2,if_neg k3,if_pos k4,if_pos k5];rfl
  have k5:¬Ac w.s.spc.files f.file=false:=by simpa using hc9
  refine AG (?_);refine BC (fun S=>S=⟨look [(0, .bp 0 0),(4, .bp 3 0),(5, .v (.int .i64 R.2))],⟨[WA w cap,IB w cap,Al f,AW R.1],[]⟩⟩) ?_ ?_
  ·skip
   refine BR ([(0,WA w cap),(1,IB w cap),(2,Al f)]) 20 (h:=AE 0 (h:=BL 1 (h:=AA 2 (h:=AA 3 (h:=A9 4 (h:=AE 5 (h:=BL 6 (h:=AA 7 (h:=AA 8 (h:=?_))))))))));refine C5 9 rfl (fun _ hS=>Bg (len:=4) (sz:=1) (n:=0) (by kernel_rfl) rfl rfl rfl rfl ⟨rfl,rfl⟩) ?_;refine A9 10 (h:=AA 11 (h:=A9 12 (h:=?_)));refine Ft 13 17 rfl rfl ?_ ?_
   ·refine A8 (hadd) ?_;rintro r rfl;refine o_ (h:=?_);refine AE 14 (h:=BH 15 (h:=BH 16 (h:=?_)));refine c_ 17 rfl (Cb (by repeat constructor) ?_);refine o_ (h:=?_);refine B8 18 (h:=B9 19 (h:=z_ (h:=?_)));refine AR ?_;exact⟨_,rfl,Cr 4 0⟩
   refine Cb (by repeat constructor) ?_;refine o_ (h:=?_);refine c_ 13 rfl (A8 (hadd) ?_);rintro r rfl;refine o_ (h:=AE 14 (h:=BH 15 (h:=BH 16 (h:=?_))));refine B8 18 (h:=B9 19 (h:=z_ (h:=?_)));refine AR ?_;exact⟨_,rfl,Cr 4 0⟩
  rintro S rfl;refine Bf (h:=Bd (h:=?_));refine A4 rfl (fun hb10 hc10=>?_) (fun hb10 hc10=>?_)
  ·have h0:R.2=0:=hc10;refine C2 (h:=l_ (h:=HQ (h:=DF (h:=Aa (h:=Ax (h:=?_))))));refine BU (r:= .v (.int .i64 (Dz w).2)) none (h5:=(by rw[hre,if_neg k1,if_neg k2,if_neg k3,if_pos k4,if_neg k5,Lg,if_pos h0];exact LeA.of_eq (vi h0))) (h6:=⟨rfl,rfl,?_⟩);rw[hre,if_neg k1,if_neg k2,if_neg k3,if_pos k4,if_neg k5,Lg,if_pos h0];rfl
  have h0:¬R.2=0:=hc10;refine AG (Aa (h:=Ax (h:=?_)));refine BU (r:= .v (.int .i64 (Dz w).2)) none (h5:=(by rw[hre,if_neg k1,if_neg k2,if_neg k3,if_pos k4,if_neg k5,Lg,if_neg h0];exact A7 _)) (h6:=⟨rfl,rfl,?_⟩);rw[hre,if_neg k1,if_neg k2,if_neg k3,if_pos k4,if_neg k5,Lg,if_neg h0];rfl
 have k4:¬w.c.num=17:=hc8;refine BG (BA (t_ (Bf (h:=?_))));refine A3 rfl (Ds 1 rfl (.cons _ _ _ _ _ rfl (LeA.of_eq rfl) (.cons _ _ _ _ _ rfl (A7 _) .nil)) (Mx w .any 0 f hsb hf) ?_);rintro r rfl;refine⟨rfl,?_⟩;refine e_ (?_);refine A4 rfl (fun hb11 hc11=>?_) (fun hb11 hc11=>?_)
 ·have k5:Ac w.s.spc.files f.file=true:=hc11;refine BK (h:=?_);refine BU (r:= .v (.int .i64 (Dz w).2)) none (h5:=(by rw[hre,if_neg k1,if_neg k2,if_neg k3,if_neg k4,if_pos k5];exact A7 _)) (h6:=⟨rfl,rfl,?_⟩);rw[hre,if_neg k1,if_neg k2,if_neg k3,if_neg k4,if_pos k5];rfl
 have k5:¬Ac w.s.spc.files f.file=true:=by simpa using hc11
 refine AG (Mg (h:=?_));refine A3 rfl (Ds 1 rfl (.cons _ _ _ _ _ rfl (LeA.of_eq rfl) (.cons _ _ _ _ _ rfl (A7 _) (.cons _ _ _ _ _ rfl (A7 _) .nil))) (LG w .any f.file 2 hsb) ?_);rintro r rfl;refine⟨rfl,?_⟩;refine D2 (h:=?_);refine A4 rfl (fun hb12 hc12=>?_) (fun hb12 hc12=>?_)
 ·have k6:CH w f.file 2=false:=by simpa using hc12
  refine BK (h:=?_);refine BU (r:= .v (.int .i64 (Dz w).2)) none (h5:=(by rw[hre,if_neg k1,if_neg k2,if_neg k3,if_neg k4,if_neg k5,if_pos k6];exact A7 _)) (h6:=⟨rfl,rfl,?_⟩);rw[hre,if_neg k1,if_neg k2,if_neg k3,if_neg k4,if_neg k5,if_pos k6];rfl
 have k6:¬CH w f.file 2=false:=by simpa using hc12
 refine AG (K5 (h:=?_));refine BU (r:= .v (.int .i64 (Dz w).2)) none (h5:=(by rw[hre,if_neg k1,if_neg k2,if_neg k3,if_neg k4,if_neg k5,if_neg k6];exact A7 _)) (h6:=⟨rfl,rfl,?_⟩);rw[hre,if_neg k1,if_neg k2,if_neg k3,if_neg k4,if_neg k5,if_neg k6];rfl
theorem Zr(w:Wrk)(cap:Nat)(f:Fnd)(x:Itm)(hv:SpcV w.s.spc)(hm:w.s.spc.mounts.length≤1000)(hf:w.found[0]?=some f)(hx:w.r.items[0]?=some x)(hn:f.name.size≤100000)(h9:w.c.num=9→0<w.c.args.length)(hsz:∀p∈w.c.args,p.size≤1000):ACall prog 151 [.bp 0 0] [WA w cap,IB w cap] (fun r b t=>t=[]∧r= .v (.int .i64 (GY w).2)∧b=[WA (GY w).1 cap,IB (GY w).1 cap]):=by
 have hsb:=hv.b hm;have hrow0:(w.found.map Al)[0]?=some (Al f):=by rw[List.getElem?_map,hf];rfl
 have hfn:B0 w 0=f:=by unfold B0;rw[hf];rfl
 have hpl:GY w=if f.ex=true then(w,17)else if f.slash=true∧w.c.num=9 then(w,2)else if CH w f.dir 2=false then(w,13)else if w.c.num=9 then D4 w 0 (OU (Km w.c))else D4 w 0 (Pi w.c.a0):=by
  unfold GY;rw[hfn]
 refine enter Tryz.func151 rfl rfl rfl rfl rfl 2 rfl ?_;refine EL (h:=k_ (h:=AO (h:=?_)));refine A3 rfl (DE (n:=0) rfl rfl rfl hrow0 ?_);refine Jb (h:=q_ (BF (Ay (h:=BO (h:=?_)))));refine A4 rfl (fun hb1 hc1=>?_) (fun hb1 hc1=>?_)
 ·have k1:f.ex=true:=hc1;refine CB (h:=?_);refine BU (r:= .v (.int .i64 (GY w).2)) none (h5:=(by rw[hpl,if_pos k1];exact A7 _)) (h6:=⟨rfl,rfl,?_⟩);rw[hpl,if_pos k1];rfl
 have k1:¬f.ex=true:=by simpa using hc1
 refine BC (fun S=>S=⟨look [(0, .bp 0 0),(3, .bp 2 0),(13, .v (.bool (f.slash&&decide (w.c.num=9))))],⟨[WA w cap,IB w cap,Al f],[]⟩⟩) ?_ ?_
 ·skip
  refine Aw (AO (h:=m_ (h:=?_)));refine AJ true rfl rfl (fun hb2 hc2=>?_) (fun hb2 hc2=>?_)
  ·refine m_ (h:=Dj (h:=Dt (h:=CD (h:=Cw (h:=?_)))));exact⟨_,rfl,CM 3 0 (by simp[AY,AT,AQ,Bq B5,BD,WA,IB,Cq,Al,AZ,AB,Ao,AW,Au])⟩
  refine BB (h:=Fj (h:=Cw (h:=?_)));exact⟨_,rfl,CM 3 0 (by simp[AY,AT,AQ,Bq B5,BD,WA,IB,Cq,Al,AZ,AB,Ao,AW,Au])⟩
 rintro S rfl;refine A4 rfl (fun hb3 hc3=>?_) (fun hb3 hc3=>?_)
 ·have k2:f.slash=true∧w.c.num=9:=by simpa using hc3
  refine CB (h:=?_);refine BU (r:= .v (.int .i64 (GY w).2)) none (h5:=(by rw[hpl,if_neg k1,if_pos k2];exact A7 _)) (h6:=⟨rfl,rfl,?_⟩);rw[hpl,if_neg k1,if_pos k2];rfl
 have k2:¬(f.slash=true∧w.c.num=9):=by simpa using hc3
 refine Aa (h:=AO (h:=?_));refine A3 rfl (Ds 1 rfl (.cons _ _ _ _ _ rfl (LeA.of_eq rfl) (.cons _ _ _ _ _ rfl (A7 _) (.cons _ _ _ _ _ rfl (A7 _) .nil))) (LG w .any f.dir 2 hsb) ?_);rintro r rfl;refine⟨rfl,?_⟩;refine Ck (h:=BO (h:=?_));refine A4 rfl (fun hb4 hc4=>?_) (fun hb4 hc4=>?_)
 ·have k3:CH w f.dir 2=false:=by simpa using hc4
  refine CB (h:=?_);refine BU (r:= .v (.int .i64 (GY w).2)) none (h5:=(by rw[hpl,if_neg k1,if_neg k2,if_pos k3];exact A7 _)) (h6:=⟨rfl,rfl,?_⟩);rw[hpl,if_neg k1,if_neg k2,if_pos k3];rfl
 have k3:¬CH w f.dir 2=false:=by simpa using hc4
 refine BG (BA (t_ (Bf (h:=Dj (h:=Bd (h:=?_))))));refine A4 rfl (fun hb5 hc5=>?_) (fun hb5 hc5=>?_)
 ·have k4:w.c.num=9:=hc5;obtain⟨a0,ha0⟩:∃a,w.c.args[0]?=some a:=⟨_,B6 (h9 hc5)⟩;have harg:(w.c.args.map DH)[0]?=some (DH a0):=by rw[List.getElem?_map,ha0];rfl
  have hag:Km w.c=a0:=by unfold Km;rw[List.headD_eq_head?_getD,List.head?_eq_getElem?,ha0];rfl
  have hsa:(OU a0).target.size≤100000:=by have:=hsz a0 (Am ha0);show a0.size≤100000;omega
  refine DA (h:=Dj (h:=?_));refine A3 rfl (DE (n:=0) rfl rfl rfl harg ?_);refine l_ (h:=?_);refine A3 rfl (H5 (y:= .agg (AZ (OU a0))) (Du ⟨rfl,rfl⟩) ?_);refine A3 rfl (Bj [0,1] rfl (.cons _ _ _ _ _ rfl (A7 _) (.cons _ _ _ _ _ rfl (A7 _) (.cons _ _ _ _ _ rfl (A7 _) .nil))) (by decide) (.cons _ _ _ _ _ rfl rfl (.cons _ _ _ _ _ rfl (Dg B5 _ _ _) .nil)) (UV w cap 0 (OU a0) f x hv.files hf hx hn hsa rfl) ?_);rintro r bc tc ⟨rfl,rfl,rfl⟩;refine⟨rfl,_,E8 rfl ((D4 w 0 (OU a0)).1) cap,?_⟩;refine Dd (h:=?_);refine BU (r:= .v (.int .i64 (GY w).2)) none (h5:=(by rw[hpl,if_neg k1,if_neg k2,if_neg k3,if_pos k4,hag];exact A7 _)) (h6:=⟨rfl,rfl,?_⟩);rw[hpl,if_neg k1,if_neg k2,if_neg k3,if_pos k4,hag];rfl
 have k4:¬w.c.num=9:=hc5;refine AG (DA (h:=HQ (h:=f_ (h:=?_))));refine A3 rfl (Bg (len:=4) (sz:=1) (n:=0) (by kernel_rfl) rfl rfl rfl rfl ?_);refine l_ (h:=?_);refine A3 rfl (H5 (y:= .agg (AZ (Pi w.c.a0))) (Du ⟨rfl,rfl⟩) ?_);refine A3 rfl (Bj [0,1] rfl (.cons _ _ _ _ _ rfl (A7 _) (.cons _ _ _ _ _ rfl (A7 _) (.cons _ _ _ _ _ rfl (A7 _) .nil))) (by decide) (.cons _ _ _ _ _ rfl rfl (.cons _ _ _ _ _ rfl (Dg B5 _ _ _) .nil)) (UV w cap 0 (Pi w.c.a0) f x hv.files hf hx hn (BE _) rfl) ?_);rintro r bc tc ⟨rfl,rfl,rfl⟩;refine⟨rfl,_,E8 rfl ((D4 w 0 (Pi w.c.a0)).1) cap,?_⟩;refine Az (h:=?_);refine BU (r:= .v (.int .i64 (GY w).2)) none (h5:=(by rw[hpl,if_neg k1,if_neg k2,if_neg k3,if_neg k4];exact A7 _)) (h6:=⟨rfl,rfl,?_⟩);rw[hpl,if_neg k1,if_neg k2,if_neg k3,if_neg k4];rfl
end
section
variable {P:Program}{ev:Operand→Option AV}{h:AH}{R:AV→AH→Prop}{d:Option Tmp}{ty:TypeId}{pos:String}{af:Array Edge}{gd:Option (Nat×Bool)}
theorem qG{T:TypeId}{s y:Operand}{T' sz bytes:Nat}[hE:Elm P T T' sz bytes](hs:ev s=some (.v (.slice none 0 0)))(hy:ev y=some (.v (.slice none 0 0)))(hR:R (.v (.slice none 0 0)) h):AStep P ⟨d, .call {callee:= .builtin .append,args:=#[s,y],argTypes:=#[T,T]},ty,pos,af,gd⟩ ev h R:=by
 intro E G w ec hr he;have k1:=he s (by simp[Op.operands,Call.operands]) _ hs;have k2:=he y (by simp[Op.operands,Call.operands]) _ hy;obtain⟨hu,inf,z,hinf,hz,hzs,hsz,hbts,hp⟩:=Gz hE.eq;simp only[rep]at k1 k2
 have hrun:(Builtin.append_ #[T,T] ty #[.slice none 0 0, .slice none 0 0]).run P w= .ok (.slice none 0 0) w:=by
  simp[Builtin.append_,run_underlying hu,sizeOf,typeInfo,hinf,Builtin.lenOf,Builtin.firstCells,storeCells]
 simp only[execOp,resolve,invoke,builtin,Sem.run_bind,Sem.run_pure,Result.andThen_ok,List.map_toArray,List.map_cons,List.map_nil,k1,k2,hrun];exact⟨_,_,G,hR,hr,Ext.refl _ _,by simp only[rep]⟩
end
def WN(w:Wrk):List AV:=Df w (.v (.slice none 0 0)) (.v (.slice none 0 0))
theorem Ln{a:List AV}{rest:List (List AV)}(w:Wrk):Back (a::rest) [0] [WN w] (WN w::rest):=by
 have:=Pj (bx:=a::rest) (is:=[0]) (bc:=[WN w]) (by simp) (by simp) (by simp);have e1:E9 (Er [0] (a::rest).length) (WN w)=WN w:=rfl
 have hb:E0 (a::rest) (Er [0] (a::rest).length) [0] [WN w]=WN w::rest:=by
  unfold E0;rw[e1];simp[E0]
 rw[hb]at this;exact this
def Cs(c:Cal):List AV:=[.v (.int .i64 c.a0), .v (.int .i64 c.a1), .v (.int .i64 c.a2), .v (.int .i64 c.a3)]
theorem qH{t:Tab}{dev:Int}(h:∀i y,i<t.ps.length→t.ps[i]?=some y→(decide (y.cwd.1=dev)||y.opens.any fun d=>decide (d.file.1=dev))=false):OV t dev=false:=O7 h
section
theorem Nn(w:Wrk)(t:Tab)(e:Int):ACall prog 200 [.bp 0 0, .agg (Ao t), .v (.int .i64 e)] [WN w] (fun r b tk=>tk=[]∧r= .v (.int .i64 e)∧b=[WN (CJ w (t,e)).1]):=by
 refine enter Tryz.func200 rfl rfl rfl rfl rfl 1 rfl ?_;refine EG (h:=Bo (h:=Bd (h:=?_)));refine A4 rfl (fun hb1 hc1=>?_) (fun hb1 hc1=>?_)
 ·refine C2 (h:=l_ (h:=HQ (h:=DF (h:=Dv (h:=?_)))));refine AX (r:= .v (.int .i64 e)) none (h4:=(by simp[AY,AT,AQ,BD,WN,Cs,Ao,Av,AW])) (h5:=(A7 _)) (h6:=⟨rfl,rfl,?_⟩);rw[CJ,if_pos hc1];rfl
 refine AG (Dv (h:=?_));refine AX (r:= .v (.int .i64 e)) none (h4:=(by simp[AY,AT,AQ,BD,WN,Cs,Ao,Av,AW])) (h5:=(A7 _)) (h6:=⟨rfl,rfl,?_⟩);rw[CJ,if_neg hc1];rfl
theorem qJ(w:Wrk)(hs:SpcB w.s.spc)(htb:TabB w.s.tab):ACall prog 213 [.bp 0 0] [WN w] (fun r b t=>t=[]∧r= .v (.int .i64 (He w).2)∧b=[WN (He w).1]):=by
 have hfew:=htb.few;obtain⟨R,hR⟩:∃R,R=Hz w.s.spc w.c.a0:=⟨_,rfl⟩;have hrem:AFn prog 253 [.agg (AW w.s.spc), .v (.int .i64 w.c.a0)] (fun r=>r=Hc R):=by rw[hR];exact iN _ _ hs
 have hum:He w=if w.p.euid≠0 then(w,1)else if w.c.a0=0∨DN w.s.spc w.c.a0=false then(w,22)else if OV w.s.tab w.c.a0=true then(w,16)else Lh w R:=by
  unfold He;rw[←hR]
 clear hR;refine enter Tryz.func213 rfl rfl rfl rfl rfl 1 rfl ?_;refine EL (h:=HQ (h:=f_ (h:=?_)));refine A3 rfl (Bg (len:=4) (sz:=1) (n:=0) (by kernel_rfl) rfl rfl rfl rfl ?_);refine l_ (h:=Bo (h:=Dj (h:=Bl (h:=?_))));refine A4 rfl (fun hb1 hc1=>?_) (fun hb1 hc1=>?_)
 ·have k1:w.p.euid≠0:=by simpa using hc1
  refine BK (h:=?_);refine AX (r:= .v (.int .i64 (He w).2)) none (h4:=(by simp[AY,AT,AQ,BD,WN,Cs,Ao,Av,AW])) (h5:=(by rw[hum,if_pos k1];exact A7 _)) (h6:=⟨rfl,rfl,?_⟩);rw[hum,if_pos k1];rfl
 have k1:¬w.p.euid≠0:=by simpa using hc1
 refine Eh (h:=?_);refine BC (fun S=>S=⟨look [(0, .bp 0 0),(3, .v (.int .i64 w.c.a0)),(32, .v (.bool (decide (w.c.a0=0)|| !DN w.s.spc w.c.a0)))],⟨[WN w],[]⟩⟩) ?_ ?_
 ·skip
  refine C2 (h:=E4 (h:=?_));refine AJ false rfl rfl (fun hb2 hc2=>?_) (fun hb2 hc2=>?_)
  ·refine BB (h:=BB (h:=FE (h:=?_)));exact⟨_,rfl,CM 1 0 (by simp[AY,AT,AQ,BD,WN,Cs,Ao,Av,AW])⟩
  refine m_ (h:=Dj (h:=m_ (h:=?_)));refine As (A8 (P6 w.s.spc w.c.a0 hs) ?_);rintro r rfl;refine Ck (h:=EJ (h:=?_));exact⟨_,rfl,CM 1 0 (by simp[AY,AT,AQ,BD,WN,Cs,Ao,Av,AW])⟩
 rintro S rfl;refine A4 rfl (fun hb3 hc3=>?_) (fun hb3 hc3=>?_)
 ·have k2:w.c.a0=0∨DN w.s.spc w.c.a0=false:=by simpa using hc3
  refine BK (h:=?_);refine AX (r:= .v (.int .i64 (He w).2)) none (h4:=(by simp[AY,AT,AQ,BD,WN,Cs,Ao,Av,AW])) (h5:=(by rw[hum,if_neg k1,if_pos k2];exact A7 _)) (h6:=⟨rfl,rfl,?_⟩);rw[hum,if_neg k1,if_pos k2];rfl
 have k2:¬(w.c.a0=0∨DN w.s.spc w.c.a0=false):=by simpa using hc3
 refine AG (DT (h:=?_));refine BM (fun m S=>∃j:Nat,j≤w.s.tab.ps.length∧m=w.s.tab.ps.length - j∧(∀i y,i<j→w.s.tab.ps[i]?=some y→(decide (y.cwd.1=w.c.a0)||y.opens.any fun d=>decide (d.file.1=w.c.a0))=false)∧S=⟨look [(0, .bp 0 0),(3, .v (.int .i64 w.c.a0)),(4, .v (.int .i64 (j:Int)))],⟨[WN w],[]⟩⟩) (w.s.tab.ps.length) (Be 1 0 (by simp[AY,AT,AQ,BD,WN,Cs,Ao,Av,AW])) (⟨0,BE _,rfl,fun i y hi=>by omega,rfl⟩) ?_;rintro m S ⟨j,hj,rfl,ha,rfl⟩;refine De (h:=HQ (h:=Hn (h:=Fi (h:=?_))));refine A4 rfl (fun hb4 hc4=>?_) (fun hb4 hc4=>?_)
 ·obtain⟨hlt,p,hy,hrow, -⟩:=Br Av hc4;have hop:=htb.opens p (Am hy);have hpl:(p.opens.map Gu).length=p.opens.length:=List.length_map _;refine By (h:=Aa (h:=HQ (h:=Hn (h:=GG (h:=Jb (h:=q_ (FZ (h:=CE (h:=e_ (?_))))))))));refine A4 rfl (fun hb5 hc5=>?_) (fun hb5 hc5=>?_)
  ·have hbz:OV w.s.tab w.c.a0=true:=NQ hy (by simp[hc5]);refine BK (h:=D8 (h:=Dk (h:=?_)));refine AX (r:= .v (.int .i64 (He w).2)) none (h4:=(by simp[AY,AT,AQ,BD,WN,Cs,Ao,Av,AW])) (h5:=(by rw[hum,if_neg k1,if_neg k2,if_pos hbz];exact A7 _)) (h6:=⟨rfl,rfl,?_⟩);rw[hum,if_neg k1,if_neg k2,if_pos hbz];rfl
  have hcw:¬p.cwd.1=w.c.a0:=hc5;refine AG (NJ (h:=?_));refine BM (fun m S=>∃k:Nat,k≤p.opens.length∧m=p.opens.length - k∧(∀i y,i<k→p.opens[i]?=some y→decide (y.file.1=w.c.a0)=false)∧S=⟨look [(0, .bp 0 0),(3, .v (.int .i64 w.c.a0)),(4, .v (.int .i64 (j:Int))),(5, .bp 1 0),(6, .v (.int .i64 (k:Int)))],⟨[WN w,Av p],[]⟩⟩) (p.opens.length) (Be 2 0 (by simp[AY,AT,AQ,BD,WN,Cs,Ao,Av,AW])) (⟨0,BE _,rfl,fun i y hi=>by omega,rfl⟩) ?_;rintro m S ⟨k,hk2,rfl,hak,rfl⟩;refine Fz (h:=?_);refine A4 rfl (fun hb6 hc6=>?_) (fun hb6 hc6=>?_)
  ·obtain⟨hltk,q,hyk,hrowk, -⟩:=Br Gu hc6;refine By (h:=H9 (h:=Hn (h:=CE (h:=e_ (?_)))));refine A4 rfl (fun hb7 hc7=>?_) (fun hb7 hc7=>?_)
   ·have hbz:OV w.s.tab w.c.a0=true:=NQ hy (by rw[Bool.or_eq_true];exact .inr (NQ hyk (decide_eq_true hc7)));refine CB (h:=BN (Lr (D8 (h:=Dk (h:=?_)))));refine AX (r:= .v (.int .i64 (He w).2)) none (h4:=(by simp[AY,AT,AQ,BD,WN,Cs,Ao,Av,AW])) (h5:=(by rw[hum,if_neg k1,if_neg k2,if_pos hbz];exact A7 _)) (h6:=⟨rfl,rfl,?_⟩);rw[hum,if_neg k1,if_neg k2,if_pos hbz];rfl
   have hqn:decide (q.file.1=w.c.a0)=false:=decide_eq_false hc7;refine Cm (h:=?_);refine⟨_,_,?_,⟨k+1,by omega,rfl,GN hyk hak hqn,rfl⟩,Be 2 0 (by simp[AY,AT,AQ,BD,WN,Cs,Ao,Av,AW])⟩;omega
  have e2:=C6 Gu hk2 hc6;have hno:(p.opens.any fun d=>decide (d.file.1=w.c.a0))=false:=O7 (by rw[←e2];exact hak);refine Kb (h:=Ef (h:=?_));refine⟨_,_,?_,⟨j+1,by omega,rfl,GN hy ha (by rw[decide_eq_false hcw,hno];rfl),rfl⟩,Be 1 0 (by simp[AY,AT,AQ,BD,WN,Cs,Ao,Av,AW])⟩;omega
 have e:=C6 Av hj hc4;have hbz:OV w.s.tab w.c.a0=false:=qH (by rw[←e];exact ha);refine CP (h:=Aa (h:=Dj (h:=m_ (h:=?_))));refine A3 rfl (A8 (hrem) ?_);rintro r rfl;refine JJ (h:=Bd (h:=?_));refine A4 rfl (fun hb8 hc8=>?_) (fun hb8 hc8=>?_)
 ·have h0:R.2=0:=hc8;refine Aa (h:=l_ (h:=HQ (h:=DF (h:=EK (h:=HQ (h:=DF (h:=Dv (h:=?_))))))));refine AX (r:= .v (.int .i64 (He w).2)) none (h4:=(by simp[AY,AT,AQ,BD,WN,Cs,Ao,Av,AW])) (h5:=(by rw[hum,if_neg k1,if_neg k2,if_neg (by rw[hbz];simp),Lh,if_pos h0];exact LeA.of_eq (vi h0))) (h6:=⟨rfl,rfl,?_⟩);rw[hum,if_neg k1,if_neg k2,if_neg (by rw[hbz];simp),Lh,if_pos h0];rfl
 have h0:¬R.2=0:=hc8;refine AG (Dv (h:=?_));refine AX (r:= .v (.int .i64 (He w).2)) none (h4:=(by simp[AY,AT,AQ,BD,WN,Cs,Ao,Av,AW])) (h5:=(by rw[hum,if_neg k1,if_neg k2,if_neg (by rw[hbz];simp),Lh,if_neg h0];exact A7 _)) (h6:=⟨rfl,rfl,?_⟩);rw[hum,if_neg k1,if_neg k2,if_neg (by rw[hbz];simp),Lh,if_neg h0];rfl
theorem qK(w:Wrk)(hs:SpcB w.s.spc)(htb:TabB w.s.tab)(htn:Db w.s.tab)(h19:w.c.num=19→0<w.c.args.length):ACall prog 152 [.bp 0 0] [WN w] (fun r b t=>t=[]∧r= .v (.int .i64 (FQ w).2)∧b=[WN (FQ w).1]):=by
 obtain⟨F0,hF0⟩:∃F,F=Gr w.s.tab w.p.pid:=⟨_,rfl⟩;obtain⟨F2,hF2⟩:∃F,F=Jm w.s.tab w.p.pid:=⟨_,rfl⟩;obtain⟨F3,hF3⟩:∃F,F=Jn w.s.tab w.p.pid w.c.a0:=⟨_,rfl⟩;obtain⟨F4,hF4⟩:∃F,F=Jo w.s.tab w.p.pid w.c.a0:=⟨_,rfl⟩;obtain⟨F5,hF5⟩:∃F,F=GV w.s.tab w.p.pid w.c.a0:=⟨_,rfl⟩;obtain⟨F7,hF7⟩:∃F,F=Kl w.s.tab w.p.pid w.c.a0:=⟨_,rfl⟩;obtain⟨FK,hFK⟩:∃F,F=JT w.s.tab w.p.pid w.c.a0 (!decide (w.c.a1=0)):=⟨_,rfl⟩;have q0:AFn prog 207 [.agg (Ao w.s.tab), .v (.int .i64 w.p.pid)] (fun r=>r=MG F0):=by rw[hF0];exact qE _ _ htb htn
 have q2:AFn prog 208 [.agg (Ao w.s.tab), .v (.int .i64 w.p.pid)] (fun r=>r=Cz F2):=by rw[hF2];exact Zq _ _ htb
 have q3:AFn prog 209 [.agg (Ao w.s.tab), .v (.int .i64 w.p.pid), .v (.int .i64 w.c.a0)] (fun r=>r=Cz F3):=by rw[hF3];exact pZ _ _ _ htb
 have q4:AFn prog 210 [.agg (Ao w.s.tab), .v (.int .i64 w.p.pid), .v (.int .i64 w.c.a0)] (fun r=>r=Cz F4):=by rw[hF4];exact qA _ _ _ htb
 have q5:AFn prog 211 [.agg (Ao w.s.tab), .v (.int .i64 w.p.pid), .v (.int .i64 w.c.a0)] (fun r=>r=Cz F5):=by rw[hF5];exact qB _ _ _ htb htn
 have q7:AFn prog 212 [.agg (Ao w.s.tab), .v (.int .i64 w.p.pid), .v (.int .i64 w.c.a0)] (fun r=>r=Cz F7):=by rw[hF7];exact qC _ _ _ htb
 have qk:AFn prog 214 [.agg (Ao w.s.tab), .v (.int .i64 w.p.pid), .v (.int .i64 w.c.a0), .v (.bool (!decide (w.c.a1=0)))] (fun r=>r=Cz FK):=by rw[hFK];exact qD _ _ _ _ htb
 have hot:FQ w=if w.c.num=0 then CJ (OW w F0.2.1) (F0.1,F0.2.2)else if w.c.num=2 then CJ w F2 else if w.c.num=3 then CJ w F3 else if w.c.num=4 then CJ w F4 else if w.c.num=5 then CJ w F5 else if w.c.num=7 then CJ w F7 else if w.c.num=18 then He w
     else if w.c.num=19 then(if w.c.a0<0∨65535<w.c.a0∨Km w.c=⟨#[]⟩then(w,22)else if w.c.a0=0 then(w,111)else(w,0))else if w.c.a1<0∨64<w.c.a1 then(w,22)else CJ w FK:=by
  have hb:decide (w.c.a1≠0)= !decide (w.c.a1=0):=by simp
  unfold FQ;rw[hb,←hF0,←hF2,←hF3,←hF4,←hF5,←hF7,←hFK]
 clear hF0 hF2 hF3 hF4 hF5 hF7 hFK;refine enter Tryz.func152 rfl rfl rfl rfl rfl 1 rfl ?_;refine D7 (h:=?_);refine BC (fun S=>S=⟨look [(0, .bp 0 0),(3, .bp 1 0),(4, .v (.int .i64 w.p.pid)),(5, .bp 2 0)],⟨[WN w,Ao w.s.tab,Cs w.c],[]⟩⟩) ?_ ?_
 ·skip
  refine BR ([(0,WN w)]) 20 (h:=AE 0 (h:=BL 1 (h:=AA 2 (h:=AA 3 (h:=A9 4 (h:=AE 5 (h:=BL 6 (h:=AA 7 (h:=AA 8 (h:=A9 9 (h:=AE 10 (h:=BL 11 (h:=AA 12 (h:=AA 13 (h:=A9 14 (h:=?_))))))))))))))));refine Ft 15 16 rfl rfl ?_ ?_
  ·refine Cb (by repeat constructor) ?_;refine o_ (h:=?_);refine c_ 16 rfl (Cb (by repeat constructor) ?_);refine o_ (h:=?_);refine B8 17 (h:=B9 18 (h:=?_));refine B8 19 (h:=z_ (h:=?_));refine AR ?_;exact⟨_,rfl,Be 3 0 (by simp[AY,AT,AQ,BD,WN,Cs,Ao,Av,AW])⟩
  refine Cb (by repeat constructor) ?_;refine o_ (h:=?_);refine c_ 15 rfl (Cb (by repeat constructor) ?_);refine o_ (h:=?_);refine B8 17 (h:=B9 18 (h:=?_));refine B8 19 (h:=z_ (h:=?_));refine AR ?_
  first|exact⟨_,rfl,Be 3 0 (by simp[AY,AT,AQ,BD,WN,Cs,Ao,Av,AW])⟩|exact⟨_,rfl,Ga [0,2,1] Yu (by decide) (.cons _ _ _ _ _ rfl rfl (.cons _ _ _ _ _ rfl rfl (.cons _ _ _ _ _ rfl rfl .nil))) (by repeat (first|exact SubK.nil|refine SubK.cons _ _ _ _ rfl (A7 _) ?_))⟩
 rintro S rfl;refine Bf (h:=Dj (h:=e_ (BF (Ak (h:=?_)))));refine A4 rfl (fun hb1 hc1=>?_) (fun hb1 hc1=>?_)
 ·have k0:w.c.num=0:=hc1;refine L0 (h:=?_);refine A3 rfl (A8 (q0) ?_);rintro r rfl;refine Ge (h:=x_ (h:=Mf (h:=a_ (h:=Bt (h:=Jd (h:=m_ (h:=HQ (h:=Dh (h:=HQ (h:=DF (h:=w_ (?_))))))))))));refine m_ (h:=HA (h:=?_));refine A3 rfl (Bj [0] rfl (.cons _ _ _ _ _ rfl (A7 _) (.cons _ _ _ _ _ rfl (A7 _) (.cons _ _ _ _ _ rfl (A7 _) .nil))) (by decide) (.cons _ _ _ _ _ rfl rfl .nil) (Nn (OW w F0.2.1) F0.1 F0.2.2) ?_);rintro r bc tc ⟨rfl,rfl,rfl⟩;refine⟨rfl,_,Ln ((CJ (OW w F0.2.1) (F0.1,F0.2.2)).1),?_⟩;refine Ax (h:=?_);refine AX (r:= .v (.int .i64 (FQ w).2)) none (h4:=(by simp[AY,AT,AQ,BD,WN,Cs,Ao,Av,AW])) (h5:=(by rw[hot,if_pos k0,Li];exact A7 _)) (h6:=⟨rfl,rfl,?_⟩);rw[hot,if_pos k0];rfl
 have k0:¬w.c.num=0:=hc1;refine Ak (h:=?_);refine A4 rfl (fun hb2 hc2=>?_) (fun hb2 hc2=>?_)
 ·have k1:w.c.num=2:=hc2;refine Aa (h:=HA (h:=?_));refine A3 rfl (A8 (q2) ?_);rintro r rfl;refine Ky (h:=?_);refine A3 rfl (Bj [0] rfl (.cons _ _ _ _ _ rfl (A7 _) (.cons _ _ _ _ _ rfl (A7 _) (.cons _ _ _ _ _ rfl (A7 _) .nil))) (by decide) (.cons _ _ _ _ _ rfl rfl .nil) (Nn w F2.1 F2.2) ?_);rintro r bc tc ⟨rfl,rfl,rfl⟩;refine⟨rfl,_,Ln ((CJ w F2).1),?_⟩;refine Ax (h:=?_);refine AX (r:= .v (.int .i64 (FQ w).2)) none (h4:=(by simp[AY,AT,AQ,BD,WN,Cs,Ao,Av,AW])) (h5:=(by rw[hot,if_neg k0,if_pos k1,Li];exact A7 _)) (h6:=⟨rfl,rfl,?_⟩);rw[hot,if_neg k0,if_pos k1];rfl
 have k1:¬w.c.num=2:=hc2;refine Ak (h:=?_);refine A4 rfl (fun hb3 hc3=>?_) (fun hb3 hc3=>?_)
 ·have k2:w.c.num=3:=hc3;refine Aa (h:=HA (h:=?_));refine A3 rfl (Bg (len:=4) (sz:=1) (n:=0) (by kernel_rfl) rfl rfl rfl rfl ?_);refine l_ (h:=?_);refine A3 rfl (A8 (q3) ?_);rintro r rfl;refine Ky (h:=?_);refine A3 rfl (Bj [0] rfl (.cons _ _ _ _ _ rfl (A7 _) (.cons _ _ _ _ _ rfl (A7 _) (.cons _ _ _ _ _ rfl (A7 _) .nil))) (by decide) (.cons _ _ _ _ _ rfl rfl .nil) (Nn w F3.1 F3.2) ?_);rintro r bc tc ⟨rfl,rfl,rfl⟩;refine⟨rfl,_,Ln ((CJ w F3).1),?_⟩;refine Ax (h:=?_);refine AX (r:= .v (.int .i64 (FQ w).2)) none (h4:=(by simp[AY,AT,AQ,BD,WN,Cs,Ao,Av,AW])) (h5:=(by rw[hot,if_neg k0,if_neg k1,if_pos k2,Li];exact A7 _)) (h6:=⟨rfl,rfl,?_⟩);rw[hot,if_neg k0,if_neg k1,if_pos k2];rfl
 have k2:¬w.c.num=3:=hc3;refine Ak (h:=?_);refine A4 rfl (fun hb4 hc4=>?_) (fun hb4 hc4=>?_)
 ·have k3:w.c.num=4:=hc4;refine Aa (h:=HA (h:=?_));refine A3 rfl (Bg (len:=4) (sz:=1) (n:=0) (by kernel_rfl) rfl rfl rfl rfl ?_);refine l_ (h:=?_);refine A3 rfl (A8 (q4) ?_);rintro r rfl;refine Ky (h:=?_);refine A3 rfl (Bj [0] rfl (.cons _ _ _ _ _ rfl (A7 _) (.cons _ _ _ _ _ rfl (A7 _) (.cons _ _ _ _ _ rfl (A7 _) .nil))) (by decide) (.cons _ _ _ _ _ rfl rfl .nil) (Nn w F4.1 F4.2) ?_);rintro r bc tc ⟨rfl,rfl,rfl⟩;refine⟨rfl,_,Ln ((CJ w F4).1),?_⟩;refine Ax (h:=?_);refine AX (r:= .v (.int .i64 (FQ w).2)) none (h4:=(by simp[AY,AT,AQ,BD,WN,Cs,Ao,Av,AW])) (h5:=(by rw[hot,if_neg k0,if_neg k1,if_neg k2,if_pos k3,Li];exact A7 _)) (h6:=⟨rfl,rfl,?_⟩);rw[hot,if_neg k0,if_neg k1,if_neg k2,if_pos k3];rfl
 have k3:¬w.c.num=4:=hc4;refine Ak (h:=?_);refine A4 rfl (fun hb5 hc5=>?_) (fun hb5 hc5=>?_)
 ·have k4:w.c.num=5:=hc5;refine Aa (h:=HA (h:=?_));refine A3 rfl (Bg (len:=4) (sz:=1) (n:=0) (by kernel_rfl) rfl rfl rfl rfl ?_);refine l_ (h:=?_);refine A3 rfl (A8 (q5) ?_);rintro r rfl;refine Ky (h:=?_);refine A3 rfl (Bj [0] rfl (.cons _ _ _ _ _ rfl (A7 _) (.cons _ _ _ _ _ rfl (A7 _) (.cons _ _ _ _ _ rfl (A7 _) .nil))) (by decide) (.cons _ _ _ _ _ rfl rfl .nil) (Nn w F5.1 F5.2) ?_);rintro r bc tc ⟨rfl,rfl,rfl⟩;refine⟨rfl,_,Ln ((CJ w F5).1),?_⟩;refine Ax (h:=?_);refine AX (r:= .v (.int .i64 (FQ w).2)) none (h4:=(by simp[AY,AT,AQ,BD,WN,Cs,Ao,Av,AW])) (h5:=(by rw[hot,if_neg k0,if_neg k1,if_neg k2,if_neg k3,if_pos k4,Li];exact A7 _)) (h6:=⟨rfl,rfl,?_⟩);rw[hot,if_neg k0,if_neg k1,if_neg k2,if_neg k3,if_pos k4];rfl
 have k4:¬w.c.num=5:=hc5;refine Ak (h:=?_);refine A4 rfl (fun hb6 hc6=>?_) (fun hb6 hc6=>?_)
 ·have k5:w.c.num=7:=hc6;refine Aa (h:=HA (h:=?_));refine A3 rfl (Bg (len:=4) (sz:=1) (n:=0) (by kernel_rfl) rfl rfl rfl rfl ?_);refine l_ (h:=?_);refine A3 rfl (A8 (q7) ?_);rintro r rfl;refine Ky (h:=?_);refine A3 rfl (Bj [0] rfl (.cons _ _ _ _ _ rfl (A7 _) (.cons _ _ _ _ _ rfl (A7 _) (.cons _ _ _ _ _ rfl (A7 _) .nil))) (by decide) (.cons _ _ _ _ _ rfl rfl .nil) (Nn w F7.1 F7.2) ?_);rintro r bc tc ⟨rfl,rfl,rfl⟩;refine⟨rfl,_,Ln ((CJ w F7).1),?_⟩;refine Ax (h:=?_);refine AX (r:= .v (.int .i64 (FQ w).2)) none (h4:=(by simp[AY,AT,AQ,BD,WN,Cs,Ao,Av,AW])) (h5:=(by rw[hot,if_neg k0,if_neg k1,if_neg k2,if_neg k3,if_neg k4,if_pos k5,Li];exact A7 _)) (h6:=⟨rfl,rfl,?_⟩);rw[hot,if_neg k0,if_neg k1,if_neg k2,if_neg k3,if_neg k4,if_pos k5];rfl
 have k5:¬w.c.num=7:=hc6;refine Ak (h:=?_);refine A4 rfl (fun hb7 hc7=>?_) (fun hb7 hc7=>?_)
 ·have k6:w.c.num=18:=hc7;refine Aa (h:=?_);refine A3 rfl (Bj [0] rfl (.cons _ _ _ _ _ rfl (A7 _) .nil) (by decide) (.cons _ _ _ _ _ rfl rfl .nil) (qJ w hs htb) ?_);rintro r bc tc ⟨rfl,rfl,rfl⟩;refine⟨rfl,_,Ln ((He w).1),?_⟩;refine Ax (h:=?_);refine AX (r:= .v (.int .i64 (FQ w).2)) none (h4:=(by simp[AY,AT,AQ,BD,WN,Cs,Ao,Av,AW])) (h5:=(by rw[hot,if_neg k0,if_neg k1,if_neg k2,if_neg k3,if_neg k4,if_neg k5,if_pos k6];exact A7 _)) (h6:=⟨rfl,rfl,?_⟩);rw[hot,if_neg k0,if_neg k1,if_neg k2,if_neg k3,if_neg k4,if_neg k5,if_pos k6];rfl
 have k6:¬w.c.num=18:=hc7;refine Ak (h:=?_);refine A4 rfl (fun hb8 hc8=>?_) (fun hb8 hc8=>?_)
 ·have k7:w.c.num=19:=hc8;obtain⟨a0,ha0⟩:∃a,w.c.args[0]?=some a:=⟨_,B6 (h19 hc8)⟩;have harg:(w.c.args.map DH)[0]?=some (DH a0):=by rw[List.getElem?_map,ha0];rfl
  have hag:Km w.c=a0:=by unfold Km;rw[List.headD_eq_head?_getD,List.head?_eq_getElem?,ha0];rfl
  refine q_ (?_);refine BC (fun S=>∃b:Bool,(b=true↔(w.c.a0<0∨65535<w.c.a0∨a0=⟨#[]⟩))∧S=⟨look [(0, .bp 0 0),(3, .bp 1 0),(4, .v (.int .i64 w.p.pid)),(5, .bp 2 0),(128, .v (.bool b))],⟨[WN w,Ao w.s.tab,Cs w.c],[]⟩⟩) ?_ ?_
  ·skip
   refine Aw (?_);refine A3 rfl (Bg (len:=4) (sz:=1) (n:=0) (by kernel_rfl) rfl rfl rfl rfl ?_);refine l_ (h:=DK (h:=?_));refine AJ false rfl rfl (fun hb9 hc9=>?_) (fun hb9 hc9=>?_)
   ·refine Cl (h:=BB (h:=BB (h:=FE (h:=?_))));refine⟨_,⟨_,?_,rfl⟩,Be 3 0 (by simp[AY,AT,AQ,BD,WN,Cs,Ao,Av,AW])⟩
    (simp[*];done)
   refine As (Bg (len:=4) (sz:=1) (n:=0) (by kernel_rfl) rfl rfl rfl rfl ?_);refine l_ (h:=Ed (h:=Bc (h:=?_)));refine AJ false rfl rfl (fun hb10 hc10=>?_) (fun hb10 hc10=>?_)
   ·refine BB (h:=BB (h:=FE (h:=?_)));refine⟨_,⟨_,?_,rfl⟩,Be 3 0 (by simp[AY,AT,AQ,BD,WN,Cs,Ao,Av,AW])⟩
    (simp[*];done)
   refine m_ (h:=Dj (h:=?_));refine As (DE (n:=0) rfl rfl rfl harg ?_);refine l_ (h:=Dt (h:=EJ (h:=?_)));refine⟨_,⟨_,?_,rfl⟩,Be 3 0 (by simp[AY,AT,AQ,BD,WN,Cs,Ao,Av,AW])⟩
   (simp[*];done)
  rintro S ⟨b20,hb20,rfl⟩;refine A4 rfl (fun hb11 hc11=>?_) (fun hb11 hc11=>?_)
  ·refine BK (h:=D8 (h:=?_));refine AX (r:= .v (.int .i64 (FQ w).2)) none (h4:=(by simp[AY,AT,AQ,BD,WN,Cs,Ao,Av,AW])) (h5:=(by rw[hot,if_neg k0,if_neg k1,if_neg k2,if_neg k3,if_neg k4,if_neg k5,if_neg k6,if_pos k7,if_pos (by rw[hag];exact hb20.1 ‹_›)];exact A7 _)) (h6:=⟨rfl,rfl,?_⟩);rw[hot,if_neg k0,if_neg k1,if_neg k2,if_neg k3,if_neg k4,if_neg k5,if_neg k6,if_pos k7,if_pos (by rw[hag];exact hb20.1 ‹_›)];rfl
  refine Eh (h:=w_ (?_));refine A3 rfl (Bg (len:=4) (sz:=1) (n:=0) (by kernel_rfl) rfl rfl rfl rfl ?_);refine l_ (h:=Bd (h:=?_));refine A4 rfl (fun hb12 hc12=>?_) (fun hb12 hc12=>?_)
  ·have k9:w.c.a0=0:=hc12;refine BK (h:=D8 (h:=?_));refine AX (r:= .v (.int .i64 (FQ w).2)) none (h4:=(by simp[AY,AT,AQ,BD,WN,Cs,Ao,Av,AW])) (h5:=(by rw[hot,if_neg k0,if_neg k1,if_neg k2,if_neg k3,if_neg k4,if_neg k5,if_neg k6,if_pos k7,if_neg (by rw[hag];exact fun q=>absurd (hb20.2 q) (by simp[*])),if_pos k9];exact A7 _)) (h6:=⟨rfl,rfl,?_⟩);rw[hot,if_neg k0,if_neg k1,if_neg k2,if_neg k3,if_neg k4,if_neg k5,if_neg k6,if_pos k7,if_neg (by rw[hag];exact fun q=>absurd (hb20.2 q) (by simp[*])),if_pos k9];rfl
  have k9:¬w.c.a0=0:=hc12;refine AG (CB (h:=?_));refine AX (r:= .v (.int .i64 (FQ w).2)) none (h4:=(by simp[AY,AT,AQ,BD,WN,Cs,Ao,Av,AW])) (h5:=(by rw[hot,if_neg k0,if_neg k1,if_neg k2,if_neg k3,if_neg k4,if_neg k5,if_neg k6,if_pos k7,if_neg (by rw[hag];exact fun q=>absurd (hb20.2 q) (by simp[*])),if_neg k9];exact A7 _)) (h6:=⟨rfl,rfl,?_⟩);rw[hot,if_neg k0,if_neg k1,if_neg k2,if_neg k3,if_neg k4,if_neg k5,if_neg k6,if_pos k7,if_neg (by rw[hag];exact fun q=>absurd (hb20.2 q) (by simp[*])),if_neg k9];rfl
 have k7:¬w.c.num=19:=hc8;refine BG (BA (t_ (q_ (?_))));refine BC (fun S=>∃b:Bool,(b=true↔(w.c.a1<0∨64<w.c.a1))∧S=⟨look [(0, .bp 0 0),(3, .bp 1 0),(4, .v (.int .i64 w.p.pid)),(5, .bp 2 0),(139, .v (.bool b))],⟨[WN w,Ao w.s.tab,Cs w.c],[]⟩⟩) ?_ ?_
 ·skip
  refine Aw (?_);refine A3 rfl (Bg (len:=4) (sz:=1) (n:=1) (by kernel_rfl) rfl rfl rfl rfl ?_);refine l_ (h:=DK (h:=?_));refine AJ false rfl rfl (fun hb13 hc13=>?_) (fun hb13 hc13=>?_)
  ·refine JO (h:=?_);refine⟨_,⟨_,?_,rfl⟩,Be 3 0 (by simp[AY,AT,AQ,BD,WN,Cs,Ao,Av,AW])⟩
   (simp[*];done)
  refine As (Bg (len:=4) (sz:=1) (n:=1) (by kernel_rfl) rfl rfl rfl rfl ?_);refine l_ (h:=Ed (h:=EJ (h:=?_)));refine⟨_,⟨_,?_,rfl⟩,Be 3 0 (by simp[AY,AT,AQ,BD,WN,Cs,Ao,Av,AW])⟩
  (simp[*];done)
 rintro S ⟨b25,hb25,rfl⟩;refine A4 rfl (fun hb14 hc14=>?_) (fun hb14 hc14=>?_)
 ·refine BK (h:=?_);refine AX (r:= .v (.int .i64 (FQ w).2)) none (h4:=(by simp[AY,AT,AQ,BD,WN,Cs,Ao,Av,AW])) (h5:=(by rw[hot,if_neg k0,if_neg k1,if_neg k2,if_neg k3,if_neg k4,if_neg k5,if_neg k6,if_neg k7,if_pos (hb25.1 ‹_›)];exact A7 _)) (h6:=⟨rfl,rfl,?_⟩);rw[hot,if_neg k0,if_neg k1,if_neg k2,if_neg k3,if_neg k4,if_neg k5,if_neg k6,if_neg k7,if_pos (hb25.1 ‹_›)];rfl
 refine AG (Aa (h:=HA (h:=?_)));refine A3 rfl (Bg (len:=4) (sz:=1) (n:=0) (by kernel_rfl) rfl rfl rfl rfl ?_);refine l_ (h:=?_);refine A3 rfl (Bg (len:=4) (sz:=1) (n:=1) (by kernel_rfl) rfl rfl rfl rfl ?_);refine l_ (h:=Gd (h:=?_));refine A3 rfl (A8 (qk) ?_);rintro r rfl;refine Ky (h:=?_);refine A3 rfl (Bj [0] rfl (.cons _ _ _ _ _ rfl (A7 _) (.cons _ _ _ _ _ rfl (A7 _) (.cons _ _ _ _ _ rfl (A7 _) .nil))) (by decide) (.cons _ _ _ _ _ rfl rfl .nil) (Nn w FK.1 FK.2) ?_);rintro r bc tc ⟨rfl,rfl,rfl⟩;refine⟨rfl,_,Ln ((CJ w FK).1),?_⟩;refine Az (h:=?_);refine AX (r:= .v (.int .i64 (FQ w).2)) none (h4:=(by simp[AY,AT,AQ,BD,WN,Cs,Ao,Av,AW])) (h5:=(by rw[hot,if_neg k0,if_neg k1,if_neg k2,if_neg k3,if_neg k4,if_neg k5,if_neg k6,if_neg k7,if_neg (fun q=>absurd (hb25.2 q) (by simp[*])),Li];exact A7 _)) (h6:=⟨rfl,rfl,?_⟩);rw[hot,if_neg k0,if_neg k1,if_neg k2,if_neg k3,if_neg k4,if_neg k5,if_neg k6,if_neg k7,if_neg (fun q=>absurd (hb25.2 q) (by simp[*]))];rfl
theorem qL(w:Wrk)(e:Int)(hp:w.c.paths=[]):ACall prog 96 [.bp 0 0, .v (.int .i64 e)] [WN w] (fun r b t=>t=[]∧r= .v (.int .i64 e)∧b=[WN w]):=by
 have hpl:w.c.paths.length=0:=by rw[hp];rfl
 refine enter Tryz.func96 rfl rfl rfl rfl rfl 1 rfl ?_;refine EL (h:=k_ (h:=AO (h:=?_)));refine A3 rfl (A8 (Yb w.c) ?_);rintro r rfl;refine JK (h:=?_);refine BM (fun m S=>S=⟨look [(0, .bp 0 0),(1, .v (.int .i64 e)),(5, .sl 1 ((DD w.c).map CT) none),(6, .v (.int .i64 0))],⟨[WN w],[]⟩⟩) (0) (Be 1 0 (by simp[AY,AT,AQ,BD,WN,Cs,Ao,Av,AW])) (rfl) ?_;rintro m S rfl;refine De (h:=Dj (h:=Fi (h:=?_)));refine A4 rfl (fun hb1 hc1=>?_) (fun hb1 hc1=>?_)
 ·exfalso;have h3:=hc1;rw[List.length_map,hpl]at h3;omega
 refine CP (h:=Dv (h:=?_));refine AX (r:= .v (.int .i64 e)) none (h4:=(by simp[AY,AT,AQ,BD,WN,Cs,Ao,Av,AW])) (h5:=(A7 _)) (h6:=⟨rfl,rfl,rfl⟩)
theorem qM(w:Wrk)(hs:SpcB w.s.spc)(htb:TabB w.s.tab)(htn:Db w.s.tab)(h19:w.c.num=19→0<w.c.args.length)(hq:w.c.num≠1∧w.c.num≠6∧w.c.num≠8∧w.c.num≠9∧w.c.num≠10∧w.c.num≠11∧w.c.num≠12∧w.c.num≠13∧w.c.num≠14∧w.c.num≠15∧w.c.num≠16∧w.c.num≠17∧w.c.num≠21):ACall prog 98 [.bp 0 0] [WN w] (fun r b t=>t=[]∧r= .v (.int .i64 (BT w).2)∧b=[WN (BT w).1]):=by
 have hact:BT w=FQ w:=by
  unfold BT;rw[if_neg (by omega),if_neg (by omega),if_neg (by omega),if_neg (by omega),if_neg (by omega),if_neg (by omega),if_neg (by omega)]
 refine enter Tryz.func98 rfl rfl rfl rfl rfl 1 rfl ?_;refine w_ (Bo (h:=Dj (h:=e_ (BF (Ak (h:=?_))))));refine A4 rfl (fun hb1 hc1=>?_) (fun hb1 hc1=>?_)
 ·exact ET
 refine Ak (h:=?_);refine A4 rfl (fun hb2 hc2=>?_) (fun hb2 hc2=>?_)
 ·exact ET
 refine q_ (Ak (h:=?_));refine A4 rfl (fun hb3 hc3=>?_) (fun hb3 hc3=>?_)
 ·exact ET
 refine Aw (EU (h:=?_));refine A4 rfl (fun hb4 hc4=>?_) (fun hb4 hc4=>?_)
 ·exact ET
 refine Ak (h:=?_);refine A4 rfl (fun hb5 hc5=>?_) (fun hb5 hc5=>?_)
 ·exact ET
 refine q_ (Ak (h:=?_));refine A4 rfl (fun hb6 hc6=>?_) (fun hb6 hc6=>?_)
 ·exact ET
 refine Aw (EU (h:=?_));refine A4 rfl (fun hb7 hc7=>?_) (fun hb7 hc7=>?_)
 ·exact ET
 refine q_ (Ak (h:=?_));refine A4 rfl (fun hb8 hc8=>?_) (fun hb8 hc8=>?_)
 ·exact ET
 refine Ak (h:=?_);refine A4 rfl (fun hb9 hc9=>?_) (fun hb9 hc9=>?_)
 ·exact ET
 refine Ak (h:=?_);refine A4 rfl (fun hb10 hc10=>?_) (fun hb10 hc10=>?_)
 ·exact ET
 refine Aw (EU (h:=?_));refine A4 rfl (fun hb11 hc11=>?_) (fun hb11 hc11=>?_)
 ·exact ET
 refine q_ (Ak (h:=?_));refine A4 rfl (fun hb12 hc12=>?_) (fun hb12 hc12=>?_)
 ·exact ET
 refine Aw (EU (h:=?_));refine A4 rfl (fun hb13 hc13=>?_) (fun hb13 hc13=>?_)
 ·exact ET
 refine BG (BA (t_ (Aa (h:=?_))));refine A3 rfl (Bj [0] rfl (.cons _ _ _ _ _ rfl (A7 _) .nil) (by decide) (.cons _ _ _ _ _ rfl rfl .nil) (qK w hs htb htn h19) ?_);rintro r bc tc ⟨rfl,rfl,rfl⟩;refine⟨rfl,_,Ln ((FQ w).1),?_⟩;refine Az (h:=?_);refine AX (r:= .v (.int .i64 (BT w).2)) none (h4:=(by simp[AY,AT,AQ,BD,WN,Cs,Ao,Av,AW])) (h5:=(by rw[hact];exact A7 _)) (h6:=⟨rfl,rfl,?_⟩);rw[hact];rfl
end
end Go.Proofs.YtbgnigjfkbmceaaGreatDoor
