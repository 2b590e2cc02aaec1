/-
  Part 6 of the proof of FilterContextsP: what the statement's proof uses of the texts in wip/tpl.
-/
import Derived.Laws.StructEq
import Derived.Laws.Pointers
import Derived.Test.YtbgnigjfkbmceaaGreatDoorProg
import Derived.WalkKit
import Derived.WalkSpells
import Derived.WalkLawsBesides
import Derived.Deep.QuietTactic
import Derived.BigQuiet
import Derived.Lib.Hide
import Derived.Outline
import Derived.Test.YtbgnigjfkbmceaaGreatDoorQb5
open Go.Proofs.Tryz (prog)
set_option maxRecDepth 10000
set_option maxHeartbeats 4000000
set_option linter.unusedVariables false
set_option linter.unusedSimpArgs false
namespace Go.Proofs.YtbgnigjfkbmceaaGreatDoor
open Go.RowKit
def Cu(m:DE):List AV:=[.v (.int .i64 m.1), .v (.int .i64 m.2.1), .v (.int .i64 m.2.2)]
def Aj(s:Spc):List AV:=[.sl 2 (s.files.map Bo) none, .sl 3 (s.mounts.map Cu) none]
structure SpcB(s:Spc):Prop where
 files:FlsB s.files
 few:s.mounts.length≤1000
def Bg(s:Spc)(dev:Int):Option AG:=(s.mounts.find? fun m:DE=>decide (m.1=dev)).map (·.2)
def C5(s:Spc)(a:AG):Option Int:=(s.mounts.find? fun m:DE=>decide (m.2=a)).map (·.1)
def CB(s:Spc)(dev:Int):Bool:=(Bg s dev).isSome||decide (dev=0)
section
theorem Ol(op:BinOp)(a b c d:Int)(w:World):(op= .eql∨op= .neq)→(binOp op 26 (.agg #[.int .i64 a, .int .i64 b]) (.agg #[.int .i64 c, .int .i64 d])).run prog w= .ok (.bool (decide ((a,b)=(c,d))==decide (op= .eql))) w:=by
 have u3:=Tryz.underlying3;have a3:=Tryz.isAgg3;have z3:=Tryz.sizeOf3;have hS:prog.underlying 26=some (.struct (prog.fieldsOf 26)):=by kernel_rfl
 have hp:prog.stoodInHeld 26=false:=by kernel_rfl
 have e:∀w,(Op.equalIn 10000 26 (.agg #[.int .i64 a, .int .i64 b]) (.agg #[.int .i64 c, .int .i64 d])).run prog w= .ok (a==c&&b==d) w:=by
  intro w;rw[show(10000:Nat)=9999+1 from rfl,run_equalIn_agg w 9999 26 _ _ hS hp];simp only[Program.fieldsOf,Tryz.underlying26]
  go_simp
  by_cases h1:a=c<;>by_cases h2:b=d<;>simp[h1,h2]
 rintro(rfl|rfl)
 ·rw[run_eql_struct,e];by_cases h1:a=c<;>by_cases h2:b=d<;>simp[h1,h2]
 rw[run_neq_struct,e];by_cases h1:a=c<;>by_cases h2:b=d<;>simp[h1,h2]
theorem Jw(a b c d:Int)(w:World):(binOp .eql 26 (.agg #[.int .i64 a, .int .i64 b]) (.agg #[.int .i64 c, .int .i64 d])).run prog w= .ok (.bool (decide ((a,b)=(c,d)))) w:=by
 rw[Ol .eql a b c d w (.inl rfl)];by_cases h:(a,b)=(c,d)<;>simp[h]
theorem Ru(a b c d:Int)(w:World):(binOp .neq 26 (.agg #[.int .i64 a, .int .i64 b]) (.agg #[.int .i64 c, .int .i64 d])).run prog w= .ok (.bool (!decide ((a,b)=(c,d)))) w:=by
 rw[Ol .neq a b c d w (.inr rfl)];by_cases h:(a,b)=(c,d)<;>simp[h]
theorem Mm(s:Spc)(dev:Int)(hs:SpcB s):AFn prog 180 [.agg (Aj s), .v (.int .i64 dev)] (fun r=>r= .tup [.agg (AF ((Bg s dev).getD (0,0))), .v (.bool (Bg s dev).isSome)]):=by
 have hfew:=hs.few;refine enter Tryz.func180 rfl rfl rfl rfl rfl 0 rfl ?_;refine w_ (b_ (h:=Aa (h:=a_ (h:=e_ (q_ (w_ (a_ (h:=e_ (Ab (?_))))))))));refine BT (fun m t=>∃j:Nat,j≤s.mounts.length∧m=s.mounts.length - j∧(∀i y,i<j→s.mounts[i]?=some y→decide (y.1=dev)=false)∧t=⟨look [(1, .v (.int .i64 dev)),(2, .bp 0 0),(4, .bp 1 0),(6, .v (.int .i64 (j:Int)))],⟨[Aj s,[.v (.int .i64 0), .v (.int .i64 0)]],[]⟩⟩) (s.mounts.length) ((wk 2 0)) (⟨0,by omega,rfl,fun i y hi=>by omega,rfl⟩) ?_;rintro m t ⟨j,hj,rfl,ha,rfl⟩;refine q_ (w_ (m_ (h:=f_ (h:=l_ (h:=n_ (h:=B4 (h:=e_ (?_))))))));refine A9 rfl (fun hb1=>?_) (fun hb1=>?_)
 ·have hc1:=bp hb1;obtain⟨hlt,x,hy,hrow, -⟩:=Bt Cu hc1;refine AD (q_ (Ab (w_ (f_ (h:=l_ (h:=m_ (h:=i_ (h:=f_ (h:=l_ (h:=m_ (h:=AK (h:=e_ (?_)))))))))))));refine A9 rfl (fun hb2=>?_) (fun hb2=>?_)
  ·have hc2:=bp hb2;refine w_ (f_ (h:=l_ (h:=m_ (h:=i_ (h:=f_ (h:=l_ (h:=s_ (h:=a_ (h:=e_ (A4 (AN (A8 (A8 (AN (A8 (?_))))))))))))))));refine A7 ?_;rw[show Bg s dev=some x.2 by simp only[Bg];rw[Gp hy (by simpa using hc2) ha];rfl];rfl
  have hc2:=bp hb2;refine Aq (Ai (t_ (AR (m_ (h:=B8 (h:=a_ (h:=AP (?_))))))));refine AJ ?_;refine⟨_,_,?_,⟨j+1,by omega,rfl,FA hy ha (by simpa using hc2),rfl⟩,(wk 2 0)⟩;omega
 have hc1:=bp hb1;have e3:=C9 Cu hj hc1;subst e3;refine BF (Ah (Ah (BG (t_ (w_ (AX (h:=s_ (h:=a_ (h:=e_ (A4 (?_)))))))))));refine A7 ?_;rw[show Bg s dev=none by simp only[Bg];rw[Gq ha];rfl];rfl
theorem Om(s:Spc)(dev:Int)(hs:SpcB s):AFn prog 124 [.agg (Aj s), .v (.int .i64 dev)] (fun r=>r= .v (.bool (CB s dev))):=by
 refine enter Tryz.func124 rfl rfl rfl rfl rfl 0 rfl ?_;refine w_ (b_ (h:=a_ (h:=e_ (w_ (l_ (h:=m_ (h:=?_)))))));refine A6 rfl (AB (Mm s dev hs) ?_);rintro r rfl;refine m_ (h:=x_ (h:=x_ (h:=Aa (h:=s_ (h:=a_ (h:=e_ (w_ (m_ (h:=m_ (h:=?_))))))))));refine AT false rfl rfl (fun hb1=>?_) (fun hb1=>?_)
 ·have hc1:=bp hb1;refine A3 (h:=A3 (h:=AA (h:=a_ (h:=e_ (A4 (?_))))));refine A7 ?_;exact vb (by unfold CB;rw[hc1];simp)
 have hc1:=bp hb1;refine m_ (h:=AK (h:=AE (h:=a_ (h:=e_ (A4 (?_))))));refine A7 ?_;exact vb (by unfold CB;rw[hc1];simp)
theorem Rv(s:Spc)(a:AG)(hs:SpcB s):AFn prog 181 [.agg (Aj s), .agg (AF a)] (fun r=>r= .tup [.v (.int .i64 ((C5 s a).getD 0)), .v (.bool (C5 s a).isSome)]):=by
 have hfew:=hs.few;refine enter Tryz.func181 rfl rfl rfl rfl rfl 0 rfl ?_;refine w_ (b_ (h:=b_ (h:=a_ (h:=a_ (h:=e_ (q_ (w_ (a_ (h:=e_ (Ab (?_)))))))))));refine BT (fun m t=>∃j:Nat,j≤s.mounts.length∧m=s.mounts.length - j∧(∀i y,i<j→s.mounts[i]?=some y→decide (y.2=a)=false)∧t=⟨look [(2, .bp 0 0),(3, .bp 1 0),(6, .v (.int .i64 (j:Int)))],⟨[Aj s,AF a],[]⟩⟩) (s.mounts.length) ((wk 2 0)) (⟨0,by omega,rfl,fun i y hi=>by omega,rfl⟩) ?_;rintro m t ⟨j,hj,rfl,ha,rfl⟩;refine q_ (w_ (m_ (h:=f_ (h:=l_ (h:=n_ (h:=B4 (h:=e_ (?_))))))));refine A9 rfl (fun hb1=>?_) (fun hb1=>?_)
 ·have hc1:=bp hb1;obtain⟨hlt,x,hy,hrow, -⟩:=Bt Cu hc1;refine AD (q_ (Ab (q_ (Cj 8 (h:=Aw 0 (h:=AO 1 (h:=Ac 2 (h:=Cl 3 (h:=Aw 4 (h:=AO 5 (h:=AO 6 (h:=?_))))))))))));refine Dw (i:=7) rfl (E4 rfl rfl (by repeat constructor) (by repeat constructor) (fun w=>Jw _ _ _ _ w) (by kernel_rfl) ⟨rfl,rfl⟩) ?_;refine z_ (h:=t_ (?_));refine A9 rfl (fun hb2=>?_) (fun hb2=>?_)
  ·have hc2:=bp hb2;refine w_ (f_ (h:=l_ (h:=m_ (h:=i_ (h:=f_ (h:=l_ (h:=a_ (h:=a_ (h:=e_ (A4 (AN (A8 (A8 (AN (A8 (?_))))))))))))))));refine A7 ?_;rw[show C5 s a=some x.1 by simp only[C5];rw[Gp hy (decide_eq_true hc2) ha];rfl];rfl
  have hc2:=bp hb2;refine Aq (Ai (t_ (AR (m_ (h:=B8 (h:=a_ (h:=AP (?_))))))));refine AJ ?_;refine⟨_,_,?_,⟨j+1,by omega,rfl,FA hy ha (decide_eq_false hc2),rfl⟩,(wk 2 0)⟩;omega
 have hc1:=bp hb1;have e3:=C9 Cu hj hc1;subst e3;refine BF (Ah (Ah (BG (t_ (w_ (a_ (h:=a_ (h:=e_ (A4 (?_))))))))));refine A7 ?_;rw[show C5 s a=none by simp only[C5];rw[Gq ha];rfl];rfl
theorem WR(s:Spc)(a:AG)(hs:SpcB s):AFn prog 125 [.agg (Aj s), .agg (AF a)] (fun r=>r= .v (.bool (C5 s a).isSome)):=by
 refine enter Tryz.func125 rfl rfl rfl rfl rfl 0 rfl ?_;refine w_ (b_ (h:=b_ (h:=a_ (h:=e_ (w_ (l_ (h:=l_ (h:=?_))))))));refine A6 rfl (AB (Rv s a hs) ?_);rintro r rfl;refine m_ (h:=x_ (h:=x_ (h:=a_ (h:=a_ (h:=e_ (w_ (m_ (h:=a_ (h:=e_ (A4 (?_)))))))))));refine A7 ?_;rfl
theorem On(s:Spc)(dev:Int)(hs:SpcB s):AFn prog 229 [.agg (Aj s), .v (.int .i64 dev)] (fun r=>r= .tup [.agg (AF ((Bg s dev).getD (0,0))), .v (.bool (Bg s dev).isSome)]):=by
 have hfew:=hs.few;refine enter Tryz.func229 rfl rfl rfl rfl rfl 0 rfl ?_;refine w_ (b_ (h:=Aa (h:=a_ (h:=e_ (q_ (w_ (f_ (h:=l_ (h:=n_ (h:=m_ (h:=e_ (Ab (?_)))))))))))));refine BT (fun m t=>∃j:Nat,j≤s.mounts.length∧m=s.mounts.length - j∧(∀i y,i<j→s.mounts[i]?=some y→decide (y.1=dev)=false)∧t=⟨look [(1, .v (.int .i64 dev)),(4, .bp 1 0),(9, .sl 3 (s.mounts.map Cu) none),(10, .v (.int .i64 ((s.mounts.map Cu).length:Int))),(11, .v (.int .i64 (j:Int)))],⟨[Aj s,[.v (.int .i64 0), .v (.int .i64 0)]],[]⟩⟩) (s.mounts.length) ((wk 2 0)) (⟨0,by omega,rfl,fun i y hi=>by omega,rfl⟩) ?_;rintro m t ⟨j,hj,rfl,ha,rfl⟩;refine w_ (B4 (h:=e_ (q_ (?_))));refine A9 rfl (fun hb1=>?_) (fun hb1=>?_)
 ·have hc1:=bp hb1;obtain⟨hlt,x,hy,hrow, -⟩:=Bt Cu hc1;refine AD (q_ (Ab (w_ (i_ (h:=l_ (h:=Aa (h:=s_ (h:=e_ (w_ (f_ (h:=l_ (h:=m_ (h:=AK (h:=e_ (?_)))))))))))))));refine A9 rfl (fun hb2=>?_) (fun hb2=>?_)
  ·have hc2:=bp hb2;refine w_ (f_ (h:=l_ (h:=s_ (h:=a_ (h:=e_ (A4 (AN (A8 (A8 (AN (A8 (?_))))))))))));refine A7 ?_;rw[show Bg s dev=some x.2 by simp only[Bg];rw[Gp hy (by simpa using hc2) ha];rfl];rfl
  have hc2:=bp hb2;refine Aq (Ai (t_ (AR (B8 (h:=m_ (h:=AP (?_)))))));refine AJ ?_;refine⟨_,_,?_,⟨j+1,by omega,rfl,FA hy ha (by simpa using hc2),rfl⟩,(wk 2 0)⟩;omega
 have hc1:=bp hb1;have e3:=C9 Cu hj hc1;subst e3;refine BF (Ah (Ah (BG (t_ (w_ (AX (h:=s_ (h:=a_ (h:=e_ (A4 (?_)))))))))));refine A7 ?_;rw[show Bg s dev=none by simp only[Bg];rw[Gq ha];rfl];rfl
theorem WS(s:Spc)(dev:Int)(hs:SpcB s):AFn prog 187 [.agg (Aj s), .v (.int .i64 dev)] (fun r=>r= .v (.bool (CB s dev))):=by
 refine enter Tryz.func187 rfl rfl rfl rfl rfl 0 rfl ?_;refine w_ (b_ (h:=a_ (h:=e_ (q_ (w_ (m_ (h:=AK (h:=e_ (?_)))))))));refine A9 rfl (fun hb1=>?_) (fun hb1=>?_)
 ·have hc1:=bp hb1;refine w_ (a_ (h:=e_ (A4 (A8 (?_)))));refine A7 ?_;exact vb (by unfold CB;simp[hc1])
 have hc1:=bp hb1;refine AD (w_ (l_ (h:=m_ (h:=?_))));refine A6 rfl (AB (On s dev hs) ?_);rintro r rfl;refine m_ (h:=x_ (h:=x_ (h:=Aa (h:=s_ (h:=a_ (h:=e_ (w_ (m_ (h:=a_ (h:=e_ (A4 (?_))))))))))));refine A7 ?_;exact vb (by unfold CB;simp[hc1])
theorem WT(s:Spc)(a:AG)(hs:SpcB s):AFn prog 280 [.agg (Aj s), .agg (AF a)] (fun r=>r= .tup [.v (.int .i64 ((C5 s a).getD 0)), .v (.bool (C5 s a).isSome)]):=by
 have hfew:=hs.few;refine enter Tryz.func280 rfl rfl rfl rfl rfl 0 rfl ?_;refine w_ (b_ (h:=b_ (h:=a_ (h:=a_ (h:=e_ (q_ (w_ (f_ (h:=l_ (h:=n_ (h:=m_ (h:=e_ (Ab (?_))))))))))))));refine BT (fun m t=>∃j:Nat,j≤s.mounts.length∧m=s.mounts.length - j∧(∀i y,i<j→s.mounts[i]?=some y→decide (y.2=a)=false)∧t=⟨look [(3, .bp 1 0),(9, .sl 3 (s.mounts.map Cu) none),(10, .v (.int .i64 ((s.mounts.map Cu).length:Int))),(11, .v (.int .i64 (j:Int)))],⟨[Aj s,AF a],[]⟩⟩) (s.mounts.length) ((wk 2 0)) (⟨0,by omega,rfl,fun i y hi=>by omega,rfl⟩) ?_;rintro m t ⟨j,hj,rfl,ha,rfl⟩;refine w_ (B4 (h:=e_ (q_ (?_))));refine A9 rfl (fun hb1=>?_) (fun hb1=>?_)
 ·have hc1:=bp hb1;obtain⟨hlt,x,hy,hrow, -⟩:=Bt Cu hc1;refine AD (q_ (Ab (w_ (i_ (h:=l_ (h:=Aa (h:=s_ (h:=e_ (w_ (f_ (h:=l_ (h:=l_ (h:=?_)))))))))))));refine A6 rfl (E4 rfl rfl (by repeat constructor) (by repeat constructor) (fun w=>Jw _ _ _ _ w) (by kernel_rfl) ?_);refine e_ (?_);refine A9 rfl (fun hb2=>?_) (fun hb2=>?_)
  ·have hc2:=bp hb2;refine w_ (f_ (h:=l_ (h:=a_ (h:=a_ (h:=e_ (A4 (AN (A8 (A8 (AN (A8 (?_))))))))))));refine A7 ?_;rw[show C5 s a=some x.1 by simp only[C5];rw[Gp hy (decide_eq_true hc2) ha];rfl];rfl
  have hc2:=bp hb2;refine Aq (Ai (t_ (AR (B8 (h:=m_ (h:=AP (?_)))))));refine AJ ?_;refine⟨_,_,?_,⟨j+1,by omega,rfl,FA hy ha (decide_eq_false hc2),rfl⟩,(wk 2 0)⟩;omega
 have hc1:=bp hb1;have e3:=C9 Cu hj hc1;subst e3;refine BF (Ah (Ah (BG (t_ (w_ (a_ (h:=a_ (h:=e_ (A4 (?_))))))))));refine A7 ?_;rw[show C5 s a=none by simp only[C5];rw[Gq ha];rfl];rfl
end
def FC(t:Tst):Nat→Bool
 |0=>false
 |k+1=>FC t k||decide (BU t ((k:Int)+1)=0)
def FD(t:Tst):Bool:=FC t 5
theorem Kv(t:Tst):∀k,FC t k=true↔∃j:Nat,j<k∧BU t ((j:Int)+1)=0
 |0=>by simp[FC]
 |k+1=>by
   simp only[FC,Bool.or_eq_true,Kv t k,decide_eq_true_eq];constructor
   ·rintro(⟨j,h1,h2⟩|h)
    ·exact⟨j,by omega,h2⟩
    exact⟨k,by omega,h⟩
   rintro⟨j,h1,h2⟩;rcases Nat.lt_or_ge j k with h|h
   ·exact .inl ⟨j,h,h2⟩
   have:j=k:=by omega
   subst this;exact .inr h2
theorem Rw{t:Tst}{k:Nat}(hk:k≤5)(h:FC t k=true):FD t=true:=by
 obtain⟨j,h1,h2⟩:=(Kv t k).1 h;exact(Kv t 5).2 ⟨j,by omega,h2⟩
theorem Rx{t:Tst}{k:Nat}(hk:k≤5)(h5:5≤k)(h:FC t k=false):FD t=false:=by
 obtain rfl:k=5:=by omega
 exact h
theorem Ry{list f:Int}(h:DF list f=true):1≤f∧f≤22:=by
 unfold DF CA at h
 (repeat' split at h)<;>simp at h<;>omega
theorem Rz{f:Int}(h:DG f=true):D5 f=false:=by
 unfold DG at h;unfold D5;simp at h ⊢;omega
theorem Oo{t:Tst}(h:FD t=true):Oi t:=by
 obtain⟨j,_,h2⟩:=(Kv t 5).1 h;generalize (j:Int)+1=list at h2;unfold BU at h2;split at h2
 ·cases h2
 rename_i h3;split at h2
 ·cases h2
 rename_i h4;simp only[not_or,not_and]at h3 h4;have ha:=Ry (by simpa using h3.1);refine⟨ha.1,ha.2,?_,by omega,by omega⟩;by_cases ho:t.other=0
 ·exact .inl ho
 obtain⟨h5,h6,h7⟩:=h3.2 ho;have hb:=Ry (list:=list) (f:=t.other) (by simpa using h5);exact .inr ⟨hb.1,hb.2,Rz (by simpa using h7)⟩
def GJ(y:Itm):Bool:= !decide (y.file=(0,0))
def JS(t:Tst)(c:Ctx):Bool:=
 if FD t=false then false else if Dp t.fld=false∧Dp t.other=false then Er t c Itm.zero else c.items.any fun y=>GJ y&&Er t c y
def GK(t:Tst)(c:Ctx):Bool:=
 if FD t=false∨D6 t.fld c=false∨t.other≠0∧D6 t.other c=false then false else if Dp t.fld=false∧Dp t.other=false then Fd t c Itm.zero else c.items.any fun y=>GJ y&&Fd t c y
theorem Mn{α:Type}(p:α→Bool)(l:List α)(k:Nat){x:α}(hx:l[k]?=some x):(l.take (k+1)).any p=((l.take k).any p||p x):=by
 obtain⟨hk,e⟩:=Al.1 hx;rw[List.take_succ_eq_append_getElem hk,List.any_append,e];simp
theorem S1{α:Type}{p:α→Bool}{l:List α}{k:Nat}{x:α}(hx:l[k]?=some x)(h:p x=true):l.any p=true:=
 List.any_eq_true.2 ⟨x,B1 hx,h⟩
section
theorem WU(t:Tst):AFn prog 162 [.agg (Bu t)] (fun r=>r= .v (.bool (FD t))):=by
 refine enter Tryz.func162 rfl rfl rfl rfl rfl 0 rfl ?_;refine w_ (b_ (h:=a_ (h:=e_ (q_ (w_ (a_ (h:=e_ (Ab (?_)))))))));refine BT (fun n s=>∃k:Nat,k≤5∧n=5 - k∧FC t k=false∧s=⟨look [(1, .bp 0 0),(3, .v (.int .i64 ((k:Int)+1)))],⟨[Bu t],[]⟩⟩) (5) ((wk 1 0)) (⟨0,by omega,rfl,rfl,rfl⟩) ?_;rintro n s ⟨k,hk,rfl,hs,rfl⟩;refine q_ (w_ (m_ (h:=Dn (h:=e_ (?_)))));refine A9 rfl (fun hb1=>?_) (fun hb1=>?_)
 ·have hc1:=bp hb1;refine AD (q_ (Ab (w_ (l_ (h:=m_ (h:=?_))))));refine A6 rfl (AB (Rn _ _) ?_);rintro r rfl;refine AK (h:=e_ (?_));refine A9 rfl (fun hb2=>?_) (fun hb2=>?_)
  ·have hc2:=bp hb2;refine w_ (a_ (h:=e_ (A4 (AN (A8 (A8 (AN (A8 (?_)))))))));refine A7 ?_
   first|(exfalso;first|contradiction|omega)|(exact vb (by rw[Rw (k:=k+1) (by omega) (by simp[FC];omega)]))
  have hc2:=bp hb2;refine Aq (Ai (t_ (AR (m_ (h:=B8 (h:=a_ (h:=AP (?_))))))));refine AJ ?_;refine⟨_,_,?_,⟨k+1,by omega,rfl,by simp[FC,hs];omega,rfl⟩,(wk 1 0)⟩;omega
 have hc1:=bp hb1;refine BF (Ah (Ah (BG (t_ (w_ (a_ (h:=e_ (A4 (?_)))))))));refine A7 ?_
 first|(exfalso;first|contradiction|omega)|(exact vb (by rw[Rx hk (by omega) hs]))
end
section
theorem S2(a b c d:Int)(w:World):(binOp .neq 26 (.agg #[.int .i64 a, .int .i64 b]) (.agg #[.int .i64 c, .int .i64 d])).run prog w= .ok (.bool (!decide ((a,b)=(c,d)))) w:=by
 rw[Ol .neq a b c d w (.inr rfl)];simp
theorem WV(t:Tst)(c:Ctx)(k:Cxs)(hn:c.items.length≤1000):AFn prog 113 [.agg (Bu t), .agg (Bf c k)] (fun r=>r= .v (.bool (JS t c))):=by
 refine enter Tryz.func113 rfl rfl rfl rfl rfl 0 rfl ?_;refine w_ (b_ (h:=b_ (h:=a_ (h:=e_ (w_ (a_ (h:=e_ (q_ (w_ (a_ (h:=e_ (Ab (?_)))))))))))));refine BT (fun n s=>∃j:Nat,j≤5∧n=5 - j∧s=⟨look [(2, .bp 0 0),(3, .bp 1 0),(4, .v (.bool false)),(5, .v (.bool (FC t j))),(6, .v (.int .i64 ((j:Int)+1)))],⟨[Bu t,Bf c k],[]⟩⟩) (5) ((wk 2 0)) (⟨0,by omega,rfl,rfl⟩) ?_;rintro n s ⟨j,hj,rfl,rfl⟩;refine q_ (w_ (m_ (h:=Dn (h:=e_ (?_)))));refine A9 rfl (fun hb1=>?_) (fun hb1=>?_)
 ·have hc1:=bp hb1;refine AD (q_ (Ab (AR (m_ (h:=m_ (h:=?_))))));refine AT false rfl rfl (fun hb2=>?_) (fun hb2=>?_)
  ·have hc2:=bp hb2;refine A3 (h:=A3 (h:=A3 (h:=A3 (h:=AA (h:=a_ (h:=AP (Ai (t_ (AR (m_ (h:=B8 (h:=a_ (h:=AP (?_))))))))))))));refine AJ ?_;refine⟨_,_,?_,⟨j+1,by omega,rfl,rfl⟩,Ar 2 0 rfl rfl rfl rfl (by repeat (first|exact Sub.nil|refine As rfl rfl ?_|refine Ay ?_|refine Az rfl ?_|refine B0 rfl ?_|(apply Sub.of;(focus exact rfl);(focus exact LeA.of_eq (vb (by simp[FC, *])));(focus exact rfl))))⟩;omega
  have hc2:=bp hb2;refine l_ (h:=m_ (h:=?_));refine B2 (AB (Rm _ _) ?_);rintro r rfl;refine AK (h:=AE (h:=a_ (h:=AP (Ai (t_ (AR (m_ (h:=B8 (h:=a_ (h:=AP (?_)))))))))));refine AJ ?_;refine⟨_,_,?_,⟨j+1,by omega,rfl,rfl⟩,Ar 2 0 rfl rfl rfl rfl (by repeat (first|exact Sub.nil|refine As rfl rfl ?_|refine Ay ?_|refine Az rfl ?_|refine B0 rfl ?_|(apply Sub.of;(focus exact rfl);(focus exact LeA.of_eq (vb (by simp[FC, *])));(focus exact rfl))))⟩;omega
 have hc1:=bp hb1;refine BF (Ah (Ah (BG (t_ (q_ (w_ (m_ (h:=B7 (h:=e_ (?_))))))))));refine A9 rfl (fun hb3=>?_) (fun hb3=>?_)
 ·have hc3:=bp hb3;have hs:=Rx hj (by omega) hc3;refine w_ (a_ (h:=e_ (A4 (A8 (?_)))));refine A7 ?_
  first|(exfalso;first|contradiction|omega)|(exact vb (by simp[JS,hs]))
 have hc3:=bp hb3;have hs:=Rw hj hc3;have ht:=Oo hs;refine AD (q_ (?_));refine Dt (⟨look [(2, .bp 0 0),(3, .bp 1 0),(4, .v (.bool false)),(31, .v (.bool (!Dp t.fld&& !Dp t.other)))],⟨[Bu t,Bf c k],[]⟩⟩) ?_ ?_
 ·skip
  refine AR (f_ (h:=l_ (h:=?_)));refine A6 rfl (AB (Rb _) ?_);rintro r rfl;refine B7 (h:=m_ (h:=?_));refine AT true rfl rfl (fun hb4=>?_) (fun hb4=>?_)
  ·have hc4:=bp hb4;refine f_ (h:=l_ (h:=?_));refine B2 (AB (Rb _) ?_);rintro r rfl;refine B7 (h:=AA (h:=AP (?_)));refine AJ ?_
   first|(exfalso;first|contradiction|omega)|exact Ar 2 0 rfl rfl rfl rfl (by repeat (first|exact Sub.nil|refine As rfl rfl ?_|refine Ay ?_|refine Az rfl ?_|refine B0 rfl ?_|(apply Sub.of;(focus exact rfl);(focus exact LeA.of_eq (vb (by simp[*])));(focus exact rfl))))
  have hc4:=bp hb4;refine A3 (h:=A3 (h:=A3 (h:=A3 (h:=AE (h:=AP (?_))))));refine AJ ?_
  first|(exfalso;first|contradiction|omega)|exact Ar 2 0 rfl rfl rfl rfl (by repeat (first|exact Sub.nil|refine As rfl rfl ?_|refine Ay ?_|refine Az rfl ?_|refine B0 rfl ?_|(apply Sub.of;(focus exact rfl);(focus exact LeA.of_eq (vb (by simp[*])));(focus exact rfl))))
 skip
 refine A9 rfl (fun hb5=>?_) (fun hb5=>?_)
 ·have hc5:=bp hb5;simp at hc5;refine w_ (l_ (h:=l_ (h:=AX (h:=?_))));refine A6 rfl (AB (Ro t c k Itm.zero ht) ?_);rintro r rfl;refine a_ (h:=e_ (A4 (A8 (?_))));refine A7 ?_
  first|(exfalso;first|contradiction|omega)|(exact vb (by simp[JS,hs,hc5]))
 have hc5:=bp hb5;have hi:¬(Dp t.fld=false∧Dp t.other=false):=by simpa using hc5
 refine AD (q_ (w_ (f_ (h:=l_ (h:=n_ (h:=m_ (h:=e_ (Ab (?_)))))))));refine BT (fun n s=>∃j:Nat,j≤c.items.length∧n=c.items.length - j∧(c.items.take j).any (fun y=>GJ y&&Er t c y)=false∧s=⟨look [(2, .bp 0 0),(3, .bp 1 0),(37, .sl 13 (c.items.map CN) none),(38, .v (.int .i64 ((c.items.map CN).length:Int))),(39, .v (.int .i64 (j:Int)))],⟨[Bu t,Bf c k],[]⟩⟩) (c.items.length) ((wk 2 0)) (⟨0,by omega,rfl,rfl,rfl⟩) ?_;rintro n s ⟨j,hj,rfl,ha,rfl⟩;refine w_ (B4 (h:=e_ (q_ (?_))));refine A9 rfl (fun hb6=>?_) (fun hb6=>?_)
 ·have hc6:=bp hb6;obtain⟨hlt,y,hy,hrow, -⟩:=Bt CN hc6;refine AD (q_ (Ab (w_ (i_ (h:=l_ (h:=Aa (h:=s_ (h:=e_ (w_ (f_ (h:=l_ (h:=AX (h:=?_)))))))))))));refine A6 rfl (E4 rfl rfl (by repeat constructor) (by repeat constructor) (fun w=>S2 _ _ _ _ w) (by kernel_rfl) ?_);refine m_ (h:=?_);refine AT true rfl rfl (fun hb7=>?_) (fun hb7=>?_)
  ·have hc7:=bp hb7;refine l_ (h:=l_ (h:=l_ (h:=?_)));refine B2 (AB (Ro t c k y ht) ?_);rintro r rfl;refine AA (h:=e_ (?_));refine A9 rfl (fun hb8=>?_) (fun hb8=>?_)
   ·have hc8:=bp hb8;refine w_ (a_ (h:=e_ (A4 (AN (A8 (A8 (AN (A8 (?_)))))))));refine A7 ?_
    first|(exfalso;first|contradiction|omega)|(exact vb (by rw[JS,if_neg (by simp[hs]),if_neg hi,S1 hy (by simp[GJ, *])]))
   have hc8:=bp hb8;refine Aq (Ai (t_ (AR (B8 (h:=m_ (h:=AP (?_)))))));refine AJ ?_;refine⟨_,_,?_,⟨j+1,by omega,rfl,(by rw[Mn _ _ _ hy,ha];simp[GJ, *]),rfl⟩,(wk 2 0)⟩;omega
  have hc7:=bp hb7;refine A3 (h:=A3 (h:=A3 (h:=A3 (h:=AE (h:=e_ (Bj (h:=Aq (Ai (t_ (AR (B8 (h:=m_ (h:=AP (?_))))))))))))));refine AJ ?_;refine⟨_,_,?_,⟨j+1,by omega,rfl,(by rw[Mn _ _ _ hy,ha];simp[GJ, *]),rfl⟩,(wk 2 0)⟩;omega
 have hc6:=bp hb6;have e:=C9 CN hj hc6;subst e;rw[List.take_length]at ha;refine BF (Ah (Ah (BG (t_ (w_ (a_ (h:=e_ (A4 (?_)))))))));refine A7 ?_
 first|(exfalso;first|contradiction|omega)|(exact vb (by rw[JS,if_neg (by simp[hs]),if_neg hi,ha]))
theorem WW(t:Tst)(c:Ctx)(k:Cxs)(hn:c.items.length≤1000):AFn prog 115 [.agg (Bu t), .agg (Bf c k)] (fun r=>r= .v (.bool (GK t c))):=by
 refine enter Tryz.func115 rfl rfl rfl rfl rfl 0 rfl ?_;refine w_ (b_ (h:=b_ (h:=a_ (h:=e_ (q_ (?_))))));refine Dt (⟨look [(2, .bp 0 0),(3, .bp 1 0),(4, .v (.bool false)),(27, .v (.bool (!FD t||(!D6 t.fld c||(decide (t.other≠0)&& !D6 t.other c)))))],⟨[Bu t,Bf c k],[]⟩⟩) ?_ ?_
 ·skip
  refine AR (l_ (h:=?_));refine A6 rfl (AB (WU _) ?_);rintro r rfl;refine B7 (h:=m_ (h:=?_));refine AT false rfl rfl (fun hb1=>?_) (fun hb1=>?_)
  ·have hc1:=bp hb1;refine A3 (h:=A3 (h:=A3 (h:=A3 (h:=A3 (h:=AA (h:=m_ (h:=A3 (h:=A3 (h:=A3 (h:=A3 (h:=AW (h:=AW (h:=AW (h:=AW (h:=AW (h:=A3 (h:=AA (h:=AP (?_)))))))))))))))))));refine AJ ?_
   first|(exfalso;first|contradiction|omega)|exact Ar 2 0 rfl rfl rfl rfl (by repeat (first|exact Sub.nil|refine As rfl rfl ?_|refine Ay ?_|refine Az rfl ?_|refine B0 rfl ?_|(apply Sub.of;(focus exact rfl);(focus exact LeA.of_eq (vb (by simp[*])));(focus exact rfl))))
  have hc1:=bp hb1;refine f_ (h:=l_ (h:=l_ (h:=?_)));refine B2 (AB (Rj _ c k) ?_);rintro r rfl;refine B7 (h:=AE (h:=m_ (h:=?_)));refine AT false rfl rfl (fun hb2=>?_) (fun hb2=>?_)
  ·have hc2:=bp hb2;refine A3 (h:=A3 (h:=A3 (h:=A3 (h:=AW (h:=AW (h:=AW (h:=AW (h:=AW (h:=A3 (h:=AA (h:=AP (?_))))))))))));refine AJ ?_
   first|(exfalso;first|contradiction|omega)|exact Ar 2 0 rfl rfl rfl rfl (by repeat (first|exact Sub.nil|refine As rfl rfl ?_|refine Ay ?_|refine Az rfl ?_|refine B0 rfl ?_|(apply Sub.of;(focus exact rfl);(focus exact LeA.of_eq (vb (by simp[*])));(focus exact rfl))))
  have hc2:=bp hb2;refine f_ (h:=l_ (h:=Ao (h:=m_ (h:=?_))));refine AT true rfl rfl (fun hb3=>?_) (fun hb3=>?_)
  ·have hc3:=bp hb3;refine f_ (h:=l_ (h:=l_ (h:=?_)));refine B2 (AB (Rj _ c k) ?_);rintro r rfl;refine B7 (h:=AA (h:=AE (h:=AP (?_))));refine AJ ?_
   first|(exfalso;first|contradiction|omega)|exact Ar 2 0 rfl rfl rfl rfl (by repeat (first|exact Sub.nil|refine As rfl rfl ?_|refine Ay ?_|refine Az rfl ?_|refine B0 rfl ?_|(apply Sub.of;(focus exact rfl);(focus exact LeA.of_eq (vb (by simp[*])));(focus exact rfl))))
  have hc3:=bp hb3;refine A3 (h:=A3 (h:=A3 (h:=A3 (h:=A3 (h:=AE (h:=AE (h:=AP (?_))))))));refine AJ ?_
  first|(exfalso;first|contradiction|omega)|exact Ar 2 0 rfl rfl rfl rfl (by repeat (first|exact Sub.nil|refine As rfl rfl ?_|refine Ay ?_|refine Az rfl ?_|refine B0 rfl ?_|(apply Sub.of;(focus exact rfl);(focus exact LeA.of_eq (vb (by simp[*])));(focus exact rfl))))
 skip
 refine A9 rfl (fun hb4=>?_) (fun hb4=>?_)
 ·have hc4:=bp hb4;have hq:FD t=false∨D6 t.fld c=false∨t.other≠0∧D6 t.other c=false:=by simpa using hc4
  refine w_ (a_ (h:=e_ (A4 (A8 (?_)))));refine A7 ?_
  first|(exfalso;first|contradiction|omega)|(exact vb (by rw[GK,if_pos hq]))
 have hc4:=bp hb4;have hq:¬(FD t=false∨D6 t.fld c=false∨t.other≠0∧D6 t.other c=false):=by simpa using hc4
 have ht:=Oo (by simpa using fun e:FD t=false=>hq (.inl e));refine AD (q_ (?_));refine Dt (⟨look [(2, .bp 0 0),(3, .bp 1 0),(4, .v (.bool false)),(37, .v (.bool (!Dp t.fld&& !Dp t.other)))],⟨[Bu t,Bf c k],[]⟩⟩) ?_ ?_
 ·skip
  refine AR (f_ (h:=l_ (h:=?_)));refine A6 rfl (AB (Rc _) ?_);rintro r rfl;refine B7 (h:=m_ (h:=?_));refine AT true rfl rfl (fun hb5=>?_) (fun hb5=>?_)
  ·have hc5:=bp hb5;refine f_ (h:=l_ (h:=?_));refine B2 (AB (Rc _) ?_);rintro r rfl;refine B7 (h:=AA (h:=AP (?_)));refine AJ ?_
   first|(exfalso;first|contradiction|omega)|exact Ar 2 0 rfl rfl rfl rfl (by repeat (first|exact Sub.nil|refine As rfl rfl ?_|refine Ay ?_|refine Az rfl ?_|refine B0 rfl ?_|(apply Sub.of;(focus exact rfl);(focus exact LeA.of_eq (vb (by simp[*])));(focus exact rfl))))
  have hc5:=bp hb5;refine A3 (h:=A3 (h:=A3 (h:=A3 (h:=AE (h:=AP (?_))))));refine AJ ?_
  first|(exfalso;first|contradiction|omega)|exact Ar 2 0 rfl rfl rfl rfl (by repeat (first|exact Sub.nil|refine As rfl rfl ?_|refine Ay ?_|refine Az rfl ?_|refine B0 rfl ?_|(apply Sub.of;(focus exact rfl);(focus exact LeA.of_eq (vb (by simp[*])));(focus exact rfl))))
 skip
 refine A9 rfl (fun hb6=>?_) (fun hb6=>?_)
 ·have hc6:=bp hb6;have hi:Dp t.fld=false∧Dp t.other=false:=by simpa using hc6
  refine w_ (l_ (h:=l_ (h:=AX (h:=?_))));refine A6 rfl (AB (Rp t c k Itm.zero ht) ?_);rintro r rfl;refine a_ (h:=e_ (A4 (A8 (?_))));refine A7 ?_
  first|(exfalso;first|contradiction|omega)|(exact vb (by rw[GK,if_neg hq,if_pos hi]))
 have hc6:=bp hb6;have hi:¬(Dp t.fld=false∧Dp t.other=false):=by simpa using hc6
 refine AD (q_ (w_ (a_ (h:=e_ (Ab (?_))))));refine BT (fun n s=>∃j:Nat,j≤c.items.length∧n=c.items.length - j∧(c.items.take j).any (fun y=>GJ y&&Fd t c y)=false∧s=⟨look [(2, .bp 0 0),(3, .bp 1 0),(5, .v (.int .i64 (j:Int)))],⟨[Bu t,Bf c k],[]⟩⟩) (c.items.length) ((wk 2 0)) (⟨0,by omega,rfl,rfl,rfl⟩) ?_;rintro n s ⟨j,hj,rfl,ha,rfl⟩;refine q_ (w_ (m_ (h:=f_ (h:=l_ (h:=n_ (h:=B4 (h:=e_ (?_))))))));refine A9 rfl (fun hb7=>?_) (fun hb7=>?_)
 ·have hc7:=bp hb7;obtain⟨hlt,y,hy,hrow, -⟩:=Bt CN hc7;refine AD (q_ (Ab (q_ (Cj 18 (h:=Aw 0 (h:=AO 1 (h:=Ac 2 (h:=Cl 3 (h:=Aw 4 (h:=AO 5 (h:=Fa 6 (h:=?_))))))))))));refine Dw (i:=7) rfl (E4 rfl rfl (by repeat constructor) (by repeat constructor) (fun w=>S2 _ _ _ _ w) (by kernel_rfl) ⟨rfl,rfl⟩) ?_;refine Ac 8 (h:=?_);refine EJ (j:=8) rfl (fun hb8=>?_) (fun hb8=>?_)
  ·have hc8:=bp hb8;refine AO 9 (h:=AO 10 (h:=Aw 11 (h:=AO 12 (h:=Ac 13 (h:=Cl 14 (h:=AO 15 (h:=?_)))))));refine c_ 16 rfl (AB (Rp t c k y ht) ?_);rintro r rfl;refine o_ (h:=E5 17 (h:=z_ (h:=t_ (?_))));refine A9 rfl (fun hb9=>?_) (fun hb9=>?_)
   ·have hc9:=bp hb9;refine w_ (a_ (h:=e_ (A4 (AN (A8 (A8 (AN (A8 (?_)))))))));refine A7 ?_
    first|(exfalso;first|contradiction|omega)|(exact vb (by rw[GK,if_neg hq,if_neg hi,S1 hy (by simp[GJ, *])]))
   have hc9:=bp hb9;refine Aq (Ai (t_ (AR (m_ (h:=B8 (h:=a_ (h:=AP (?_))))))));refine AJ ?_;refine⟨_,_,?_,⟨j+1,by omega,rfl,(by rw[Mn _ _ _ hy,ha];simp[GJ, *]),rfl⟩,(wk 2 0)⟩;omega
  have hc8:=bp hb8;refine B5 9 (h:=B5 10 (h:=B5 11 (h:=B5 12 (h:=B5 13 (h:=B5 14 (h:=B5 15 (h:=B5 16 (h:=Fs 17 (h:=z_ (h:=t_ (Bj (h:=Aq (Ai (t_ (AR (m_ (h:=B8 (h:=a_ (h:=AP (?_))))))))))))))))))));refine AJ ?_;refine⟨_,_,?_,⟨j+1,by omega,rfl,(by rw[Mn _ _ _ hy,ha];simp[GJ, *]),rfl⟩,(wk 2 0)⟩;omega
 have hc7:=bp hb7;have e:=C9 CN hj hc7;subst e;rw[List.take_length]at ha;refine BF (Ah (Ah (BG (t_ (w_ (a_ (h:=e_ (A4 (?_)))))))));refine A7 ?_
 first|(exfalso;first|contradiction|omega)|(exact vb (by rw[GK,if_neg hq,if_neg hi,ha]))
end
theorem WX{t:Tst}(h:FD t=true)(h2:t.other≠0):D5 t.fld=false:=by
 obtain⟨j,_,h3⟩:=(Kv t 5).1 h;unfold BU at h3;split at h3
 ·cases h3
 rename_i h4;simp only[not_or,not_and]at h4;exact Rz (by simpa using(h4.2 h2).2.1)
theorem S3{f:Int}{c:Ctx}(h1:1≤f)(h2:f≤22)(h3:D5 f=false):Bk f c=D6 f c:=by
 simp only[D5,decide_eq_false_iff_not]at h3;unfold Bk D6
 (repeat' split)<;>first|omega|(simp;omega)|(simp[*];done)|rfl
theorem WY{f:Int}{c:Ctx}(h:D5 f=true):D6 f c=true:=by
 simp only[D5,decide_eq_true_eq]at h;unfold D6;rw[if_neg (by omega)];simp;omega
theorem WZ{t:Tst}{c:Ctx}(hs:FD t=true)(y:Itm):Er t c y=if D6 t.fld c=false∨t.other≠0∧D6 t.other c=false then false else Fd t c y:=by
 obtain⟨f1,f2,o, -, -⟩:=Oo hs;have h2:=WX hs;by_cases ht:D5 t.fld=true
 ·have ho:t.other=0:=Classical.byContradiction fun e=>by simp[h2 e]at ht
  rw[if_neg (by simp[WY ht,ho])];simp[Er,Fd,ht]
 have ht':D5 t.fld=false:=by simpa using ht
 have e1:=S3 (c:=c) f1 f2 ht';by_cases h0:t.other=0
 ·simp only[Er,Fd,ht',e1,h0];cases D6 t.fld c<;>simp
 obtain⟨o1,o2,o3⟩:=o.resolve_left h0;have e2:=S3 (c:=c) o1 o2 o3;simp only[Er,Fd,ht',e1,e2,h0];cases D6 t.fld c<;>cases D6 t.other c<;>simp[h0]
theorem S4(t:Tst)(c:Ctx):JS t c=GK t c:=by
 unfold JS GK
 cases hs:FD t with
 |false=>simp
 |true=>
   simp only[WZ hs];by_cases hq:D6 t.fld c=false∨t.other≠0∧D6 t.other c=false
   ·simp[hq]
   simp[hq]
theorem Wa(x:Int):Gf .u64 x 1=0∨Gf .u64 x 1=1:=by
 have e:((BitVec.ofInt 64 x &&& BitVec.ofInt 64 1).toNat)=(BitVec.ofInt 64 x).toNat % 2:=by
  rw[BitVec.toNat_and];exact Nat.and_one_is_mod _
 unfold Gf;show IntKind.u64.wrap ((BitVec.ofInt 64 x &&& BitVec.ofInt 64 1).toNat)=0∨IntKind.u64.wrap ((BitVec.ofInt 64 x &&& BitVec.ofInt 64 1).toNat)=1;rw[e];rcases Nat.mod_two_eq_zero_or_one (BitVec.ofInt 64 x).toNat with h|h<;>rw[h]
 ·exact .inl rfl
 exact .inr rfl
def Fe(m n:Int):Bool:=if 0≤n∧n<32 then decide (Gf .u64 (Kj .u64 m n) 1=1)else false
def GL(r:Rul)(hit:Bool)(c:Ctx):Bool:=(decide (r.calls=0)||Fe r.calls c.number)&&r.tests.all (fun t=>GK t c)&&(decide (r.watch=0)||hit)
theorem S5{α:Type}(p:α→Bool)(l:List α)(k:Nat){x:α}(hx:l[k]?=some x):(l.take (k+1)).all p=((l.take k).all p&&p x):=by
 obtain⟨hk,e⟩:=Al.1 hx;rw[List.take_succ_eq_append_getElem hk,List.all_append,e];simp
theorem S6{α:Type}{p:α→Bool}{l:List α}{k:Nat}{x:α}(hx:l[k]?=some x)(h:p x=false):l.all p=false:=by
 cases e:l.all p with
 |false=>rfl
 |true=>rw[List.all_eq_true]at e;rw[e x (B1 hx)]at h;cases h
theorem Oq{p:Prop}[Decidable p]{b:Bool}(h:(decide (¬p)&& !b)=false):(decide p||b)=true:=by
 by_cases h0:p<;>cases b<;>simp_all
section
theorem Wc(m n:Int):AFn prog 112 [.v (.int .u64 m), .v (.int .i64 n)] (fun r=>r= .v (.bool (Fe m n))):=by
 have hb:=Wa (Kj .u64 m n);refine enter Tryz.func112 rfl rfl rfl rfl rfl 0 rfl ?_;refine w_ (a_ (h:=e_ (w_ (m_ (h:=Cm (h:=m_ (h:=?_)))))));refine AT true rfl rfl (fun hb1=>?_) (fun hb1=>?_)
 ·have hc1:=bp hb1;refine m_ (h:=B4 (h:=AA (h:=m_ (h:=?_))));refine AT true rfl rfl (fun hb2=>?_) (fun hb2=>?_)
  ·have hc2:=bp hb2;refine m_ (h:=m_ (h:=Oe (h:=JN (h:=Ao (h:=AA (h:=a_ (h:=e_ (A4 (?_)))))))));refine A7 ?_
   first|(exfalso;first|contradiction|omega)|(exact vb (by unfold Fe;grind))
  have hc2:=bp hb2;refine A3 (h:=A3 (h:=A3 (h:=A3 (h:=A3 (h:=AE (h:=a_ (h:=e_ (A4 (?_)))))))));refine A7 ?_
  first|(exfalso;first|contradiction|omega)|(exact vb (by unfold Fe;grind))
 have hc1:=bp hb1;refine A3 (h:=A3 (h:=AE (h:=m_ (h:=A3 (h:=A3 (h:=A3 (h:=A3 (h:=A3 (h:=AE (h:=a_ (h:=e_ (A4 (?_)))))))))))));refine A7 ?_
 first|(exfalso;first|contradiction|omega)|(exact vb (by unfold Fe;grind))
theorem Wd(m n:Int):AFn prog 114 [.v (.int .u64 m), .v (.int .i64 n)] (fun r=>r= .v (.bool (Fe m n))):=by
 have hw:0≤n→n<32→IntKind.u64.wrap n=n:=fun h1 h2=>by simp[IntKind.wrap,IntKind.signed,IntKind.bits];omega
 refine enter Tryz.func114 rfl rfl rfl rfl rfl 0 rfl ?_;refine w_ (a_ (h:=e_ (w_ (m_ (h:=Cm (h:=m_ (h:=?_)))))));refine AT true rfl rfl (fun hb1=>?_) (fun hb1=>?_)
 ·have hc1:=bp hb1;refine m_ (h:=B4 (h:=AA (h:=m_ (h:=?_))));refine AT true rfl rfl (fun hb2=>?_) (fun hb2=>?_)
  ·have hc2:=bp hb2;refine m_ (h:=m_ (h:=?_));refine B2 (JF rfl Tryz.underlying3 Tryz.underlying113 ?_);refine Oe (h:=JN (h:=AK (h:=AA (h:=a_ (h:=e_ (A4 (?_)))))));refine A7 ?_
   first|(exfalso;first|contradiction|omega)|(exact vb (by unfold Fe;grind))
  have hc2:=bp hb2;refine A3 (h:=A3 (h:=A3 (h:=A3 (h:=A3 (h:=A3 (h:=AE (h:=a_ (h:=e_ (A4 (?_))))))))));refine A7 ?_
  first|(exfalso;first|contradiction|omega)|(exact vb (by unfold Fe;grind))
 have hc1:=bp hb1;refine A3 (h:=A3 (h:=AE (h:=m_ (h:=A3 (h:=A3 (h:=A3 (h:=A3 (h:=A3 (h:=A3 (h:=AE (h:=a_ (h:=e_ (A4 (?_))))))))))))));refine A7 ?_
 first|(exfalso;first|contradiction|omega)|(exact vb (by unfold Fe;grind))
theorem S7(r:Rul)(hit:Bool)(c:Ctx)(k:Cxs)(hn:c.items.length≤1000)(hl:r.tests.length≤1000):AFn prog 64 [.agg (Ak r), .v (.bool hit), .agg (Bf c k)] (fun x=>x= .v (.bool (GL r hit c))):=by
 refine enter Tryz.func64 rfl rfl rfl rfl rfl 0 rfl ?_;refine w_ (b_ (h:=b_ (h:=a_ (h:=e_ (q_ (?_))))));refine Dt (⟨look [(1, .v (.bool hit)),(3, .bp 0 0),(5, .bp 1 0),(20, .v (.bool (decide (r.calls≠0)&& !Fe r.calls c.number)))],⟨[Ak r,Bf c k],[]⟩⟩) ?_ ?_
 ·skip
  refine AR (f_ (h:=l_ (h:=Ao (h:=m_ (h:=?_)))));refine AT true rfl rfl (fun hb1=>?_) (fun hb1=>?_)
  ·have hc1:=bp hb1;refine f_ (h:=l_ (h:=f_ (h:=f_ (h:=l_ (h:=?_)))));refine B2 (AB (Wc _ _) ?_);rintro r rfl;refine B7 (h:=AA (h:=AP (?_)));refine AJ ?_
   first|(exfalso;first|contradiction|omega)|exact Ar 2 0 rfl rfl rfl rfl (by repeat (first|exact Sub.nil|refine As rfl rfl ?_|refine Ay ?_|refine Az rfl ?_|refine B0 rfl ?_|(apply Sub.of;(focus exact rfl);(focus exact LeA.of_eq (vb (by simp[*])));(focus exact rfl))))
  have hc1:=bp hb1;refine A3 (h:=A3 (h:=A3 (h:=A3 (h:=A3 (h:=A3 (h:=A3 (h:=AE (h:=AP (?_)))))))));refine AJ ?_
  first|(exfalso;first|contradiction|omega)|exact Ar 2 0 rfl rfl rfl rfl (by repeat (first|exact Sub.nil|refine As rfl rfl ?_|refine Ay ?_|refine Az rfl ?_|refine B0 rfl ?_|(apply Sub.of;(focus exact rfl);(focus exact LeA.of_eq (vb (by simp[*])));(focus exact rfl))))
 skip
 refine A9 rfl (fun hb2=>?_) (fun hb2=>?_)
 ·have hc2:=bp hb2;have hq:r.calls≠0∧Fe r.calls c.number=false:=by simpa using hc2
  refine w_ (a_ (h:=e_ (A4 (A8 (?_)))));refine A7 ?_
  first|(exfalso;first|contradiction|omega)|(exact vb (by simp[GL,hq]))
 have hc2:=bp hb2;have hq:=Oq hc2;refine AD (q_ (w_ (f_ (h:=l_ (h:=n_ (h:=m_ (h:=e_ (Ab (?_)))))))));refine BT (fun n s=>∃j:Nat,j≤r.tests.length∧n=r.tests.length - j∧(r.tests.take j).all (fun t=>GK t c)=true∧s=⟨look [(1, .v (.bool hit)),(3, .bp 0 0),(5, .bp 1 0),(22, .sl 5 (r.tests.map Bu) none),(23, .v (.int .i64 ((r.tests.map Bu).length:Int))),(24, .v (.int .i64 (j:Int)))],⟨[Ak r,Bf c k],[]⟩⟩) (r.tests.length) ((wk 2 0)) (⟨0,by omega,rfl,rfl,rfl⟩) ?_;rintro n s ⟨j,hj,rfl,ha,rfl⟩;refine w_ (B4 (h:=e_ (q_ (?_))));refine A9 rfl (fun hb3=>?_) (fun hb3=>?_)
 ·have hc3:=bp hb3;obtain⟨hlt,t,hy,hrow, -⟩:=Bt Bu hc3;refine AD (q_ (Ab (w_ (i_ (h:=l_ (h:=Aa (h:=s_ (h:=e_ (w_ (l_ (h:=l_ (h:=?_))))))))))));refine A6 rfl (AB (WV t c k hn) ?_);rintro r rfl;refine B7 (h:=e_ (?_));refine A9 rfl (fun hb4=>?_) (fun hb4=>?_)
  ·have hc4:=bp hb4;refine w_ (a_ (h:=e_ (A4 (AN (A8 (A8 (AN (A8 (?_)))))))));refine A7 ?_
   first|(exfalso;first|contradiction|omega)|(exact vb (by rw[GL,S6 hy (by rw[←S4];simpa using hc4)];simp))
  have hc4:=bp hb4;refine Aq (Ai (t_ (AR (B8 (h:=m_ (h:=AP (?_)))))));refine AJ ?_;refine⟨_,_,?_,⟨j+1,by omega,rfl,(by rw[S5 _ _ _ hy,ha,←S4];simp[*]),rfl⟩,(wk 2 0)⟩;omega
 have hc3:=bp hb3;have e:=C9 Bu hj hc3;subst e;rw[List.take_length]at ha;refine BF (Ah (Ah (BG (t_ (w_ (f_ (h:=l_ (h:=AK (h:=m_ (h:=?_))))))))));refine AT false rfl rfl (fun hb5=>?_) (fun hb5=>?_)
 ·have hc5:=bp hb5;refine A3 (h:=AA (h:=a_ (h:=e_ (A4 (?_)))));refine A7 ?_
  first|(exfalso;first|contradiction|omega)|(exact vb (by rw[GL,hq,ha];simp[hc5]))
 have hc5:=bp hb5;refine m_ (h:=AE (h:=a_ (h:=e_ (A4 (?_)))));refine A7 ?_
 first|(exfalso;first|contradiction|omega)|(exact vb (by rw[GL,hq,ha];simp[*]))
theorem S8(r:Rul)(hit:Bool)(c:Ctx)(k:Cxs)(hn:c.items.length≤1000)(hl:r.tests.length≤1000):AFn prog 65 [.agg (Ak r), .v (.bool hit), .agg (Bf c k)] (fun x=>x= .v (.bool (GL r hit c))):=by
 refine enter Tryz.func65 rfl rfl rfl rfl rfl 0 rfl ?_;refine w_ (b_ (h:=b_ (h:=a_ (h:=e_ (q_ (?_))))));refine Dt (⟨look [(1, .v (.bool hit)),(3, .bp 0 0),(5, .bp 1 0),(28, .v (.bool (decide (r.calls≠0)&& !Fe r.calls c.number||decide (r.watch≠0)&& !hit)))],⟨[Ak r,Bf c k],[]⟩⟩) ?_ ?_
 ·skip
  refine AR (f_ (h:=l_ (h:=Ao (h:=m_ (h:=?_)))));refine AT true rfl rfl (fun hb1=>?_) (fun hb1=>?_)
  ·have hc1:=bp hb1;refine f_ (h:=l_ (h:=f_ (h:=f_ (h:=l_ (h:=?_)))));refine B2 (AB (Wd _ _) ?_);rintro r rfl;refine B7 (h:=AA (h:=m_ (h:=?_)));refine AT false rfl rfl (fun hb2=>?_) (fun hb2=>?_)
   ·have hc2:=bp hb2;refine A3 (h:=A3 (h:=A3 (h:=A3 (h:=AW (h:=AW (h:=A3 (h:=AA (h:=AP (?_)))))))));refine AJ ?_
    first|(exfalso;first|contradiction|omega)|exact Ar 2 0 rfl rfl rfl rfl (by repeat (first|exact Sub.nil|refine As rfl rfl ?_|refine Ay ?_|refine Az rfl ?_|refine B0 rfl ?_|(apply Sub.of;(focus exact rfl);(focus exact LeA.of_eq (vb (by simp[*])));(focus exact rfl))))
   have hc2:=bp hb2;refine f_ (h:=l_ (h:=Ao (h:=m_ (h:=?_))));refine AT true rfl rfl (fun hb3=>?_) (fun hb3=>?_)
   ·have hc3:=bp hb3;refine m_ (h:=B7 (h:=AA (h:=AE (h:=AP (?_)))));refine AJ ?_
    first|(exfalso;first|contradiction|omega)|exact Ar 2 0 rfl rfl rfl rfl (by repeat (first|exact Sub.nil|refine As rfl rfl ?_|refine Ay ?_|refine Az rfl ?_|refine B0 rfl ?_|(apply Sub.of;(focus exact rfl);(focus exact LeA.of_eq (vb (by simp[*])));(focus exact rfl))))
   have hc3:=bp hb3;refine A3 (h:=A3 (h:=AE (h:=AE (h:=AP (?_)))));refine AJ ?_
   first|(exfalso;first|contradiction|omega)|exact Ar 2 0 rfl rfl rfl rfl (by repeat (first|exact Sub.nil|refine As rfl rfl ?_|refine Ay ?_|refine Az rfl ?_|refine B0 rfl ?_|(apply Sub.of;(focus exact rfl);(focus exact LeA.of_eq (vb (by simp[*])));(focus exact rfl))))
  have hc1:=bp hb1;refine A3 (h:=A3 (h:=A3 (h:=A3 (h:=A3 (h:=A3 (h:=A3 (h:=AE (h:=m_ (h:=f_ (h:=l_ (h:=Ao (h:=m_ (h:=?_)))))))))))));refine AT true rfl rfl (fun hb4=>?_) (fun hb4=>?_)
  ·have hc4:=bp hb4;refine m_ (h:=B7 (h:=AA (h:=AE (h:=AP (?_)))));refine AJ ?_
   first|(exfalso;first|contradiction|omega)|exact Ar 2 0 rfl rfl rfl rfl (by repeat (first|exact Sub.nil|refine As rfl rfl ?_|refine Ay ?_|refine Az rfl ?_|refine B0 rfl ?_|(apply Sub.of;(focus exact rfl);(focus exact LeA.of_eq (vb (by simp[*])));(focus exact rfl))))
  have hc4:=bp hb4;refine A3 (h:=A3 (h:=AE (h:=AE (h:=AP (?_)))));refine AJ ?_
  first|(exfalso;first|contradiction|omega)|exact Ar 2 0 rfl rfl rfl rfl (by repeat (first|exact Sub.nil|refine As rfl rfl ?_|refine Ay ?_|refine Az rfl ?_|refine B0 rfl ?_|(apply Sub.of;(focus exact rfl);(focus exact LeA.of_eq (vb (by simp[*])));(focus exact rfl))))
 skip
 refine A9 rfl (fun hb5=>?_) (fun hb5=>?_)
 ·have hc5:=bp hb5;refine w_ (a_ (h:=e_ (A4 (A8 (?_)))));refine A7 ?_
  first|(exfalso;first|contradiction|omega)|(exact vb (by rw[Bool.or_eq_true]at hc5;rcases hc5 with h|h<;>simp at h<;>simp[GL,h]))
 have hc5:=bp hb5;rw[Bool.or_eq_false_iff]at hc5;have hq:=Oq hc5.1;have hq2:=Oq hc5.2;refine AD (q_ (w_ (a_ (h:=e_ (Ab (?_))))));refine BT (fun n s=>∃j:Nat,j≤r.tests.length∧n=r.tests.length - j∧(r.tests.take j).all (fun t=>GK t c)=true∧s=⟨look [(3, .bp 0 0),(5, .bp 1 0),(7, .v (.int .i64 (j:Int)))],⟨[Ak r,Bf c k],[]⟩⟩) (r.tests.length) ((wk 2 0)) (⟨0,by omega,rfl,rfl,rfl⟩) ?_;rintro n s ⟨j,hj,rfl,ha,rfl⟩;refine q_ (w_ (m_ (h:=f_ (h:=l_ (h:=n_ (h:=B4 (h:=e_ (?_))))))));refine A9 rfl (fun hb6=>?_) (fun hb6=>?_)
 ·have hc6:=bp hb6;obtain⟨hlt,t,hy,hrow, -⟩:=Bt Bu hc6;refine AD (q_ (Ab (q_ (Cj 8 (h:=Aw 0 (h:=AO 1 (h:=Ac 2 (h:=Cl 3 (h:=AO 4 (h:=AO 5 (h:=?_)))))))))));refine c_ 6 rfl (AB (WW t c k hn) ?_);rintro r rfl;refine o_ (h:=RT 7 (h:=z_ (h:=t_ (?_))));refine A9 rfl (fun hb7=>?_) (fun hb7=>?_)
  ·have hc7:=bp hb7;refine w_ (a_ (h:=e_ (A4 (AN (A8 (A8 (AN (A8 (?_)))))))));refine A7 ?_
   first|(exfalso;first|contradiction|omega)|(exact vb (by rw[GL,S6 hy (by simpa using hc7)];simp))
  have hc7:=bp hb7;refine Aq (Ai (t_ (AR (m_ (h:=B8 (h:=a_ (h:=AP (?_))))))));refine AJ ?_;refine⟨_,_,?_,⟨j+1,by omega,rfl,(by rw[S5 _ _ _ hy,ha];simp[*]),rfl⟩,(wk 2 0)⟩;omega
 have hc6:=bp hb6;have e:=C9 Bu hj hc6;subst e;rw[List.take_length]at ha;refine BF (Ah (Ah (BG (t_ (w_ (a_ (h:=e_ (A4 (?_)))))))));refine A7 ?_
 first|(exfalso;first|contradiction|omega)|(exact vb (by rw[GL,hq,ha,hq2];rfl))
end
def CX{α:Type}(p:Nat→α→Bool):List α→Nat→Int
 |[],_=> -1
 |x::xs,i=>if p i x=true then(i:Int)else CX p xs (i+1)
theorem Hp{α:Type}{p:Nat→α→Bool}{l:List α}{j:Nat}{x:α}(hx:l[j]?=some x):CX p (l.drop j) j=if p j x=true then(j:Int)else CX p (l.drop (j+1)) (j+1):=by
 obtain⟨hk,e⟩:=Al.1 hx;rw[List.drop_eq_getElem_cons hk,CX,e]
theorem Mo{α:Type}{p:Nat→α→Bool}{l:List α}:CX p (l.drop l.length) l.length= -1:=by
 simp[CX]
def D7(b:Bool):List AV:=[.v (.bool b)]
def Kw(hits:List Bool)(i:Nat):Bool:=(hits[i]?).getD false
theorem Mp{hits:List Bool}{i:Nat}{b:Bool}(h:hits[i]?=some b):Kw hits i=b:=by simp[Kw,h]
theorem Mq{hits:List Bool}{i:Nat}(h:¬(i:Int)<((hits.map D7).length:Int)):Kw hits i=false:=by
 have:hits.length≤i:=by simp at h;omega
 simp[Kw,this]
def DH(list:Int)(hits:List Bool)(c:Ctx)(i:Nat)(r:Rul):Bool:=decide (r.list=list)&&GL r (Kw hits i) c
section
theorem S9(l:List Rul)(hl:l.length≤1000)(p:Nat→Rul→Bool)(f:FuncId)(caps:List AV)[Fun prog f](hcl:Fq caps=true)(hbl:BA 0 0 (.fn f caps)=true)
    (hp:∀i r,l[i]?=some r→AFn prog f ([.v (.int .i64 (i:Int)), .agg (Ak r)]++caps) (fun x=>x= .v (.bool (p i r)))):AFn prog 62 [.sl 8 (l.map Ak) none, .fn f caps] (fun x=>x= .v (.int .i64 (CX p l 0))):=by
 refine enter Tryz.func62 rfl rfl rfl rfl rfl 0 rfl ?_;refine w_ (a_ (h:=e_ (q_ (w_ (m_ (h:=n_ (h:=m_ (h:=e_ (Ab (?_))))))))));refine BT (fun n s=>∃j:Nat,j≤l.length∧n=l.length - j∧CX p (l.drop j) j=CX p l 0∧s=⟨look [(1, .fn f caps),(7, .sl 8 (l.map Ak) none),(8, .v (.int .i64 ((l.map Ak).length:Int))),(9, .v (.int .i64 (j:Int)))],⟨[],[]⟩⟩) (l.length) (Ar 0 0 rfl rfl rfl rfl (by repeat (first|exact Sub.nil|refine As rfl rfl ?_|refine Sub.cons _ _ _ rfl hbl ?_|refine Ay ?_|refine Az rfl ?_|refine B0 rfl ?_))) (⟨0,by omega,rfl,rfl,rfl⟩) ?_;rintro n s ⟨j,hj,rfl,ha,rfl⟩;refine w_ (B4 (h:=e_ (q_ (?_))));refine A9 rfl (fun hb1=>?_) (fun hb1=>?_)
 ·have hc1:=bp hb1;obtain⟨hlt,r,hy,hrow, -⟩:=Bt Ak hc1;refine AD (q_ (Ab (w_ (m_ (h:=i_ (h:=l_ (h:=Aa (h:=a_ (h:=s_ (h:=e_ (w_ (m_ (h:=m_ (h:=l_ (h:=?_)))))))))))))));refine A6 rfl (OJ (cy:=[]) rfl (by repeat (first|exact Args.nil|refine Args.cons _ _ _ _ _ rfl (GE rfl) ?_|refine Args.cons _ _ _ _ _ rfl (Hc _) ?_|refine Args.cons _ _ _ _ _ rfl (Ge _) ?_|refine Args.cons _ _ _ _ _ rfl (Hf rfl (by repeat (first|exact AZ _|exact LeA.nil _|exact LeL.refl _|refine LeA.agg ?_|refine LeA.tup ?_|exact LeL.nil|refine LeL.cons ?_ ?_|exact LeA.any _))) ?_)) hcl rfl (hp j r hy) ?_);rintro x rfl;refine e_ (?_);refine A9 rfl (fun hb2=>?_) (fun hb2=>?_)
  ·have hc2:=bp hb2;refine w_ (m_ (h:=a_ (h:=e_ (A4 (AN (A8 (A8 (AN (A8 (?_))))))))));refine A7 ?_
   first|(exfalso;first|contradiction|omega)|(exact vi (by rw[←ha,Hp hy,if_pos hc2]))
  have hc2:=bp hb2;refine Aq (Ai (t_ (AR (B8 (h:=m_ (h:=AP (?_)))))));refine AJ ?_;refine⟨_,_,?_,⟨j+1,by omega,rfl,(by rw[←ha,Hp hy];simp[*]),rfl⟩,Ar 0 0 rfl rfl rfl rfl (by repeat (first|exact Sub.nil|refine As rfl rfl ?_|refine Sub.cons _ _ _ rfl hbl ?_|refine Ay ?_|refine Az rfl ?_|refine B0 rfl ?_))⟩;omega
 have hc1:=bp hb1;have e:=C9 Ak hj hc1;subst e;refine BF (Ah (Ah (BG (t_ (w_ (a_ (h:=e_ (A4 (?_)))))))));refine A7 ?_
 first|(exfalso;first|contradiction|omega)|(exact vi (by rw[←ha,Mo]))
theorem We(i:Nat)(r:Rul)(list:Int)(hits:List Bool)(c:Ctx)(k:Cxs)(hn:c.items.length≤1000)(hl:r.tests.length≤1000):AFn prog 63 [.v (.int .i64 (i:Int)), .agg (Ak r), .fp [.v (.int .i64 list)], .fp [.sl 1 (hits.map D7) none], .fp (Bf c k)] (fun x=>x= .v (.bool (DH list hits c i r))):=by
 refine enter Tryz.func63 rfl rfl rfl rfl rfl 0 rfl ?_;refine w_ (b_ (h:=a_ (h:=e_ (q_ (Cj 20 (h:=Aw 0 (h:=AO 1 (h:=AO 2 (h:=Eb 3 (h:=Ac 4 (h:=?_)))))))))));refine EJ (j:=4) rfl (fun hb1=>?_) (fun hb1=>?_)
 ·have hc1:=bp hb1;refine AO 5 (h:=Ac 6 (h:=AO 7 (h:=Hh 8 (h:=RU 9 (h:=Ac 10 (h:=?_))))));refine EJ (j:=10) rfl (fun hb2=>?_) (fun hb2=>?_)
  ·have hc2:=bp hb2;obtain⟨hlt,b,hy,hrow, -⟩:=Bt D7 hc2;refine AO 11 (h:=Ac 12 (h:=Cl 13 (h:=AO 14 (h:=E5 15 (h:=AO 16 (h:=?_))))));refine c_ 17 rfl (AB (S7 r b c k hn hl) ?_);rintro r rfl;refine o_ (h:=E5 18 (h:=BL 19 (h:=z_ (h:=t_ (A4 (?_))))));refine A7 ?_
   first|(exfalso;first|contradiction|omega)|(exact vb (by simp[DH,hc1,Mp hy]))
  have hc2:=bp hb2;refine B5 11 (h:=B5 12 (h:=B5 13 (h:=B5 14 (h:=Fs 15 (h:=AO 16 (h:=?_))))));refine c_ 17 rfl (AB (S7 r false c k hn hl) ?_);rintro r rfl;refine o_ (h:=E5 18 (h:=BL 19 (h:=z_ (h:=t_ (A4 (?_))))));refine A7 ?_
  first|(exfalso;first|contradiction|omega)|(exact vb (by simp[DH,hc1,Mq hc2]))
 have hc1:=bp hb1;refine B5 5 (h:=B5 6 (h:=B5 7 (h:=B5 8 (h:=B5 9 (h:=B5 10 (h:=B5 11 (h:=B5 12 (h:=B5 13 (h:=B5 14 (h:=B5 15 (h:=B5 16 (h:=B5 17 (h:=Fs 18 (h:=BL 19 (h:=z_ (h:=t_ (A4 (?_))))))))))))))))));refine A7 ?_
 first|(exfalso;first|contradiction|omega)|(exact vb (by simp[DH,hc1]))
theorem Kx(l:List Rul)(list:Int)(hits:List Bool)(c:Ctx)(k:Cxs)(hl:l.length≤1000)(hn:c.items.length≤1000)(ht:∀r∈l,r.tests.length≤1000):AFn prog 16 [.sl 8 (l.map Ak) none, .v (.int .i64 list), .sl 1 (hits.map D7) none, .agg (Bf c k)] (fun x=>x= .v (.int .i64 (CX (DH list hits c) l 0))):=by
 refine enter Tryz.func16 rfl rfl rfl rfl rfl 0 rfl ?_;refine w_ (b_ (h:=b_ (h:=b_ (h:=a_ (h:=e_ (w_ (m_ (h:=Ob (h:=?_)))))))));refine A6 rfl (OR rfl (by repeat (first|exact ArgsL.nil|refine ArgsL.cons _ _ _ _ _ rfl rfl ?_)) (S9 l hl (DH list hits c) 63 [.fp [.v (.int .i64 list)], .fp [.sl 1 (hits.map D7) none], .fp (Bf c k)] rfl rfl fun i r hi=>We i r list hits c k hn (ht r (B1 hi))) ?_);rintro x rfl;refine⟨rfl,?_⟩;refine a_ (h:=e_ (A4 (?_)));refine A7 ?_;rfl
theorem Ky(l:List Rul)(list:Int)(hits:List Bool)(c:Ctx)(k:Cxs)(hl:l.length≤1000)(hn:c.items.length≤1000)(ht:∀r∈l,r.tests.length≤1000):AFn prog 18 [.sl 8 (l.map Ak) none, .v (.int .i64 list), .sl 1 (hits.map D7) none, .agg (Bf c k)] (fun x=>x= .v (.int .i64 (CX (DH list hits c) l 0))):=by
 refine enter Tryz.func18 rfl rfl rfl rfl rfl 0 rfl ?_;refine w_ (b_ (h:=a_ (h:=e_ (q_ (w_ (a_ (h:=e_ (Ab (?_)))))))));refine BT (fun n s=>∃j:Nat,j≤l.length∧n=l.length - j∧CX (DH list hits c) (l.drop j) j=CX (DH list hits c) l 0∧s=⟨look [(0, .sl 8 (l.map Ak) none),(1, .v (.int .i64 list)),(2, .sl 1 (hits.map D7) none),(7, .bp 0 0),(9, .v (.int .i64 (j:Int)))],⟨[Bf c k],[]⟩⟩) (l.length) ((wk 1 0)) (⟨0,by omega,rfl,rfl,rfl⟩) ?_;rintro n s ⟨j,hj,rfl,ha,rfl⟩;refine q_ (w_ (m_ (h:=m_ (h:=n_ (h:=B4 (h:=e_ (?_)))))));refine A9 rfl (fun hb1=>?_) (fun hb1=>?_)
 ·have hc1:=bp hb1;obtain⟨hlt,r,hy,hrow, -⟩:=Bt Ak hc1;refine AD (q_ (Ab (?_)));refine Dt (⟨look [(0, .sl 8 (l.map Ak) none),(1, .v (.int .i64 list)),(2, .sl 1 (hits.map D7) none),(7, .bp 0 0),(9, .v (.int .i64 (j:Int))),(40, .v (.bool (DH list hits c j r)))],⟨[Bf c k],[]⟩⟩) ?_ ?_
  ·skip
   refine Cj 25 (h:=Ac 0 (h:=Ac 1 (h:=Cl 2 (h:=Aw 3 (h:=AO 4 (h:=Ac 5 (h:=Eb 6 (h:=Ac 7 (h:=?_)))))))));refine EJ (j:=7) rfl (fun hb2=>?_) (fun hb2=>?_)
   ·have hc2:=bp hb2;refine Ac 8 (h:=Ac 9 (h:=Cl 10 (h:=AO 11 (h:=Ac 12 (h:=Ac 13 (h:=Hh 14 (h:=RU 15 (h:=Ac 16 (h:=?_)))))))));refine EJ (j:=16) rfl (fun hb3=>?_) (fun hb3=>?_)
    ·have hc3:=bp hb3;obtain⟨hlt,b,hz,hrow2, -⟩:=Bt D7 hc3;refine Ac 17 (h:=Ac 18 (h:=Cl 19 (h:=AO 20 (h:=E5 21 (h:=AO 22 (h:=?_))))));refine c_ 23 rfl (AB (S8 r b c k hn (ht r (B1 hy))) ?_);rintro r rfl;refine o_ (h:=E5 24 (h:=z_ (h:=?_)));refine AJ ?_
     first|(exfalso;first|contradiction|omega)|exact Ar 1 0 rfl rfl rfl rfl (by repeat (first|exact Sub.nil|refine As rfl rfl ?_|refine Ay ?_|refine Az rfl ?_|refine B0 rfl ?_|(apply Sub.of;(focus exact rfl);(focus exact LeA.of_eq (vb (by first|(simp[DH,hc2,Mp hz];done)|(simp[DH,hc2,Mq hc3];done)|simp[DH,hc2])));(focus exact rfl))))
    have hc3:=bp hb3;refine B5 17 (h:=B5 18 (h:=B5 19 (h:=B5 20 (h:=Fs 21 (h:=AO 22 (h:=?_))))));refine c_ 23 rfl (AB (S8 r false c k hn (ht r (B1 hy))) ?_);rintro r rfl;refine o_ (h:=E5 24 (h:=z_ (h:=?_)));refine AJ ?_
    first|(exfalso;first|contradiction|omega)|exact Ar 1 0 rfl rfl rfl rfl (by repeat (first|exact Sub.nil|refine As rfl rfl ?_|refine Ay ?_|refine Az rfl ?_|refine B0 rfl ?_|(apply Sub.of;(focus exact rfl);(focus exact LeA.of_eq (vb (by first|(simp[DH,hc2,Mp hz];done)|(simp[DH,hc2,Mq hc3];done)|simp[DH,hc2])));(focus exact rfl))))
   have hc2:=bp hb2;refine B5 8 (h:=B5 9 (h:=B5 10 (h:=B5 11 (h:=B5 12 (h:=B5 13 (h:=B5 14 (h:=B5 15 (h:=B5 16 (h:=B5 17 (h:=B5 18 (h:=B5 19 (h:=B5 20 (h:=B5 21 (h:=B5 22 (h:=B5 23 (h:=Fs 24 (h:=z_ (h:=?_))))))))))))))))));refine AJ ?_
   first|(exfalso;first|contradiction|omega)|exact Ar 1 0 rfl rfl rfl rfl (by repeat (first|exact Sub.nil|refine As rfl rfl ?_|refine Ay ?_|refine Az rfl ?_|refine B0 rfl ?_|(apply Sub.of;(focus exact rfl);(focus exact LeA.of_eq (vb (by first|(simp[DH,hc2,Mp hz];done)|(simp[DH,hc2,Mq hc3];done)|simp[DH,hc2])));(focus exact rfl))))
  skip
  refine A9 rfl (fun hb4=>?_) (fun hb4=>?_)
  ·have hc4:=bp hb4;refine w_ (m_ (h:=a_ (h:=e_ (A4 (AN (A8 (A8 (AN (A8 (?_))))))))));refine A7 ?_
   first|(exfalso;first|contradiction|omega)|(exact vi (by rw[←ha,Hp hy,if_pos hc4]))
  have hc4:=bp hb4;refine Aq (Ai (t_ (AR (m_ (h:=B8 (h:=a_ (h:=AP (?_))))))));refine AJ ?_;refine⟨_,_,?_,⟨j+1,by omega,rfl,(by rw[←ha,Hp hy];simp[hc4]),rfl⟩,(wk 1 0)⟩;omega
 have hc1:=bp hb1;have e:=C9 Ak hj hc1;subst e;refine BF (Ah (Ah (BG (t_ (w_ (a_ (h:=e_ (A4 (?_)))))))));refine A7 ?_
 first|(exfalso;first|contradiction|omega)|(exact vi (by rw[←ha,Mo]))
end
def Ft(s:Spc)(a:AG):AG:=match C5 s a with
 |some d=>(d,1)
 |none=>a
def Cd(s:Spc):Nat→AG→AG
 |0,a=>a
 |n+1,a=>Cd s n (Ft s a)
theorem SA{s:Spc}{a:AG}(h:(C5 s a).isSome=true):Ft s a=((C5 s a).getD 0,1):=by
 unfold Ft
 cases hc:C5 s a with
 |none=>rw[hc]at h;cases h
 |some d=>rfl
theorem Ot{s:Spc}{a:AG}(h:(C5 s a).isSome=false):Ft s a=a:=by
 unfold Ft
 cases hc:C5 s a with
 |none=>rfl
 |some d=>rw[hc]at h;cases h
theorem Ou{s:Spc}{a:AG}(h:(C5 s a).isSome=false):∀n,Cd s n a=a
 |0=>rfl
 |n+1=>by rw[Cd,Ot h,Ou h n]
section
theorem Wf(s:Spc)(a:AG)(hs:SpcB s):AFn prog 193 [.agg (Aj s), .agg (AF a)] (fun r=>r= .agg (AF (Cd s (s.mounts.length+1) a))):=by
 have hfew:=hs.few;have hml:(s.mounts.map Cu).length=s.mounts.length:=by simp
 refine enter Tryz.func193 rfl rfl rfl rfl rfl 0 rfl ?_;refine w_ (b_ (h:=b_ (h:=Aa (h:=e_ (q_ (w_ (a_ (h:=e_ (Ab (?_))))))))));refine BT (fun m t=>∃(j:Nat) (b:AG),j≤s.mounts.length+1∧m=s.mounts.length+1 - j∧Cd s (s.mounts.length+1 - j) b=Cd s (s.mounts.length+1) a∧t=⟨look [(2, .bp 0 0),(3, .bp 1 0),(4, .bp 2 0),(5, .v (.int .i64 (j:Int)))],⟨[Aj s,AF b,[.v (.int .i64 0), .v (.int .i64 0)]],[]⟩⟩) (s.mounts.length+1) ((wk 3 0)) (⟨0,a,by omega,rfl,rfl,rfl⟩) ?_;rintro m t ⟨j,b,hj,rfl,hit,rfl⟩;refine q_ (w_ (m_ (h:=f_ (h:=l_ (h:=n_ (h:=Dn (h:=e_ (?_))))))));refine A9 rfl (fun hb1=>?_) (fun hb1=>?_)
 ·have hc1:=bp hb1;obtain⟨k,hk⟩:∃k,s.mounts.length+1 - j=k+1:=⟨s.mounts.length - j,by omega⟩;rw[hk]at hit;refine AD (q_ (Ab (w_ (l_ (h:=l_ (h:=?_))))));refine A6 rfl (AB (Rv s b hs) ?_);rintro r rfl;refine m_ (h:=x_ (h:=x_ (h:=a_ (h:=a_ (h:=e_ (w_ (m_ (h:=e_ (?_)))))))));refine A9 rfl (fun hb2=>?_) (fun hb2=>?_)
  ·have hc2:=bp hb2;rw[Cd,SA hc2]at hit;refine AR (m_ (h:=AX (h:=s_ (h:=AP (Ai (t_ (AR (m_ (h:=B8 (h:=a_ (h:=AP (?_))))))))))));refine AJ ?_
   first|(refine⟨_,_,?_,⟨j+1,((C5 s b).getD 0,1),by omega,rfl,(by rw[show s.mounts.length+1 - (j+1)=k by omega];exact hit),rfl⟩,(wk 3 0)⟩;omega)|(refine⟨_,_,?_,⟨j+1,b,by omega,rfl,(by rw[show s.mounts.length+1 - (j+1)=k by omega];exact hit),rfl⟩,(wk 3 0)⟩;omega)
  have hc2:=bp hb2;rw[Cd,Ot hc2]at hit;refine Aq (Ai (t_ (AR (m_ (h:=B8 (h:=a_ (h:=AP (?_))))))));refine AJ ?_
  first|(refine⟨_,_,?_,⟨j+1,((C5 s b).getD 0,1),by omega,rfl,(by rw[show s.mounts.length+1 - (j+1)=k by omega];exact hit),rfl⟩,(wk 3 0)⟩;omega)|(refine⟨_,_,?_,⟨j+1,b,by omega,rfl,(by rw[show s.mounts.length+1 - (j+1)=k by omega];exact hit),rfl⟩,(wk 3 0)⟩;omega)
 have hc1:=bp hb1;have ej:s.mounts.length+1 - j=0:=by omega
 rw[ej]at hit;refine BF (Ah (Ah (BG (t_ (w_ (l_ (h:=s_ (h:=e_ (A4 (?_))))))))));refine A7 ?_;rw[←hit];rfl
theorem Ov(s:Spc)(a:AG)(hs:SpcB s):AFn prog 264 [.agg (Aj s), .agg (AF a)] (fun r=>r= .agg (AF (Cd s s.mounts.length a))):=by
 have hfew:=hs.few;have hml:(s.mounts.map Cu).length=s.mounts.length:=by simp
 refine enter Tryz.func264 rfl rfl rfl rfl rfl 0 rfl ?_;refine w_ (b_ (h:=b_ (h:=Aa (h:=e_ (q_ (w_ (f_ (h:=l_ (h:=n_ (h:=m_ (h:=e_ (Ab (?_)))))))))))));refine BT (fun m t=>∃(j:Nat) (b:AG),j≤s.mounts.length∧m=s.mounts.length - j∧Cd s (s.mounts.length - j) b=Cd s s.mounts.length a∧t=⟨look [(2, .bp 0 0),(3, .bp 1 0),(4, .bp 2 0),(9, .v (.int .i64 ((s.mounts.map Cu).length:Int))),(10, .v (.int .i64 (j:Int)))],⟨[Aj s,AF b,[.v (.int .i64 0), .v (.int .i64 0)]],[]⟩⟩) (s.mounts.length) ((wk 3 0)) (⟨0,a,by omega,rfl,rfl,rfl⟩) ?_;rintro m t ⟨j,b,hj,rfl,hit,rfl⟩;refine w_ (B4 (h:=e_ (q_ (?_))));refine A9 rfl (fun hb1=>?_) (fun hb1=>?_)
 ·have hc1:=bp hb1;obtain⟨k,hk⟩:∃k,s.mounts.length - j=k+1:=⟨s.mounts.length - j - 1,by omega⟩;rw[hk]at hit;refine AD (q_ (Ab (w_ (l_ (h:=l_ (h:=?_))))));refine A6 rfl (AB (WT s b hs) ?_);rintro r rfl;refine m_ (h:=x_ (h:=x_ (h:=a_ (h:=a_ (h:=e_ (q_ (w_ (m_ (h:=B7 (h:=e_ (?_)))))))))));refine A9 rfl (fun hb2=>?_) (fun hb2=>?_)
  ·have hc2:=bp hb2;rw[Ou hc2]at hit;refine BF (Ah (KY rfl (Ah (Ah (BG (t_ (w_ (l_ (h:=s_ (h:=e_ (A4 (?_))))))))))));refine A7 ?_;rw[←hit];rfl
  have hc2:=bp hb2;rw[Cd,SA hc2]at hit;refine AD (AR (m_ (h:=AX (h:=s_ (h:=AP (Ai (t_ (AR (B8 (h:=m_ (h:=AP (?_))))))))))));refine AJ ?_;refine⟨_,_,?_,⟨j+1,((C5 s b).getD 0,1),by omega,rfl,(by rw[show s.mounts.length - (j+1)=k by omega];exact hit),rfl⟩,(wk 3 0)⟩;omega
 have hc1:=bp hb1;have ej:s.mounts.length - j=0:=by omega
 rw[ej]at hit;refine BF (Ah (Ah (BG (t_ (w_ (l_ (h:=s_ (h:=e_ (A4 (?_))))))))));refine A7 ?_;rw[←hit];rfl
end
theorem SB{f:Af}{a:AG}{k:Nat}{d:Dvc}(hk:a.1=(k:Int))(hd:f[k]?=some d):Bp f a=d.nodes.find? (fun n:Nod=>n.ino==a.2):=by
 unfold Bp;rw[hk,JP,hd]
def Wg(f:Af)(a:AG)(r:AV):Prop:=(Bp f a=none∧r= .v (.pointer none))∨∃n,Bp f a=some n∧r= .fp (Ap n)
section
theorem Ow(f:Af)(a:AG)(hf:FlsB f):AFn prog 226 [.agg (At f), .agg (AF a)] (Wg f a):=by
 refine enter Tryz.func226 rfl rfl rfl rfl rfl 0 rfl ?_;refine w_ (b_ (h:=b_ (h:=a_ (h:=e_ (q_ (w_ (f_ (h:=l_ (h:=B4 (h:=m_ (h:=?_)))))))))));refine AT false rfl rfl (fun hb1=>?_) (fun hb1=>?_)
 ·have hc1:=bp hb1;refine A3 (h:=A3 (h:=A3 (h:=A3 (h:=A3 (h:=A3 (h:=AA (h:=e_ (B6 (h:=w_ (a_ (h:=e_ (A4 (A8 (?_))))))))))))));refine A7 ?_;exact .inl ⟨by unfold Bp;rw[Mi (.inl hc1)],rfl⟩
 have hc1:=bp hb1;refine f_ (h:=l_ (h:=f_ (h:=l_ (h:=n_ (h:=Cm (h:=AE (h:=e_ (?_))))))));refine A9 rfl (fun hb2=>?_) (fun hb2=>?_)
 ·have hc2:=bp hb2;refine w_ (a_ (h:=e_ (A4 (A8 (?_)))));refine A7 ?_;exact .inl ⟨by unfold Bp;rw[Mi (.inr (by rw[List.length_map]at hc2;exact hc2))],rfl⟩
 have hc2:=bp hb2;obtain⟨k,hk⟩:=Int.eq_ofNat_of_zero_le (show 0≤a.1 by omega);rw[hk]at hc2;obtain⟨-,d,hd,hrow, -⟩:=Bt Bo (l:=f) (k:=k) (by omega);have hdn:=hf.nodes d (B1 hd);refine AD (w_ (f_ (h:=l_ (h:=f_ (h:=l_ (h:=?_))))));refine A6 rfl (DX (n:=k) rfl rfl hk hrow ?_);refine f_ (h:=l_ (h:=a_ (h:=e_ (q_ (w_ (m_ (h:=n_ (h:=m_ (h:=e_ (Ab (?_)))))))))));refine BT (fun m s=>∃j:Nat,j≤d.nodes.length∧m=d.nodes.length - j∧(∀i y,i<j→d.nodes[i]?=some y→(y.ino==a.2)=false)∧s=⟨look [(3, .bp 1 0),(5, .sl 8 (d.nodes.map Ap) none),(26, .v (.int .i64 ((d.nodes.map Ap).length:Int))),(27, .v (.int .i64 (j:Int)))],⟨[At f,AF a],[]⟩⟩) (d.nodes.length) ((wk 2 0)) (⟨0,by omega,rfl,fun i y hi=>by omega,rfl⟩) ?_;rintro m s ⟨j,hj,rfl,ha,rfl⟩;refine w_ (B4 (h:=e_ (q_ (?_))));refine A9 rfl (fun hb3=>?_) (fun hb3=>?_)
 ·have hc3:=bp hb3;obtain⟨hlt,n,hy,hrow2, -⟩:=Bt Ap hc3;refine AD (q_ (Ab (w_ (m_ (h:=a_ (h:=e_ (q_ (Cj 8 (h:=Ac 0 (h:=Ac 1 (h:=Cl 2 (h:=Aw 3 (h:=AO 4 (h:=Aw 5 (h:=AO 6 (h:=Eb 7 (h:=z_ (h:=t_ (?_)))))))))))))))))));refine A9 rfl (fun hb4=>?_) (fun hb4=>?_)
  ·have hc4:=bp hb4;refine w_ (m_ (h:=m_ (h:=i_ (h:=a_ (h:=e_ (A4 (AN (A8 (A8 (AN (A8 (?_))))))))))));refine A7 ?_;exact .inr ⟨n,by rw[SB hk hd];exact Gp hy (by simpa using hc4) ha,rfl⟩
  have hc4:=bp hb4;refine Aq (Ai (t_ (AR (B8 (h:=m_ (h:=AP (?_)))))));refine AJ ?_;refine⟨_,_,?_,⟨j+1,by omega,rfl,FA hy ha (by simpa using hc4),rfl⟩,(wk 2 0)⟩;omega
 have hc3:=bp hb3;have e:=C9 Ap hj hc3;subst e;refine BF (Ah (Ah (BG (t_ (w_ (a_ (h:=e_ (A4 (?_)))))))));refine A7 ?_;exact .inl ⟨by rw[SB hk hd];exact Gq (fun i y hi hy=>ha i y hi hy),rfl⟩
theorem Wh(e:BM):AFn prog 256 [.agg (CG e)] (fun r=>r= .agg (CG e)):=by
 refine enter Tryz.func256 rfl rfl rfl rfl rfl 0 rfl ?_;refine w_ (b_ (h:=Aa (h:=e_ (w_ (l_ (h:=s_ (h:=e_ (A4 (?_)))))))));refine A7 ?_;rfl
end
section
theorem Wi(es:List BM)(hes:es.length≤1000):AFn prog 255 [.sl 2 (es.map CG) none, .fn 256 []] (fun r=>r= .sl 2 (es.map CG) none):=by
 have hml:(es.map CG).length=es.length:=by simp
 refine enter Tryz.func255 rfl rfl rfl rfl rfl 0 rfl ?_;refine w_ (a_ (h:=e_ (q_ (w_ (m_ (h:=n_ (h:=AK (h:=e_ (?_)))))))));refine A9 rfl (fun hb1=>?_) (fun hb1=>?_)
 ·have hc1:=bp hb1;refine w_ (a_ (h:=e_ (A4 (A8 (?_)))));refine Av (r:= .sl 2 (es.map CG) none) none (h5:=?_) (h6:=⟨rfl,rfl,rfl⟩);rw[show es=[] from Ct (by omega)];exact LeA.nil _
 have hc1:=bp hb1;refine AD (w_ (m_ (h:=n_ (h:=Vz (h:=a_ (h:=e_ (q_ (w_ (m_ (h:=n_ (h:=m_ (h:=e_ (Ab (?_))))))))))))));refine BT (fun m s=>∃j:Nat,j≤es.length∧m=es.length - j∧s=⟨look [(1, .fn 256 []),(5, .sl 2 ((es.take j).map CG) (some 0)),(14, .sl 2 (es.map CG) none),(15, .v (.int .i64 ((es.map CG).length:Int))),(16, .v (.int .i64 (j:Int)))],⟨[],[(234,2,(es.take j).map CG)]⟩⟩) (es.length) ((wk 0 1)) (⟨0,by omega,rfl,rfl⟩) ?_;rintro m s ⟨j,hj,rfl,rfl⟩;refine w_ (B4 (h:=e_ (q_ (?_))));refine A9 rfl (fun hb2=>?_) (fun hb2=>?_)
 ·have hc2:=bp hb2;obtain⟨hlt,x,hy,hrow,e⟩:=Bt CG hc2;refine AD (q_ (Ab (w_ (i_ (h:=l_ (h:=Aa (h:=s_ (h:=e_ (AR (m_ (h:=m_ (h:=l_ (h:=?_)))))))))))));refine A6 rfl (OJ (cy:=[]) (ys:=[.agg (CG x)]) rfl (by repeat (first|exact Args.nil|refine Args.cons _ _ _ _ _ rfl (GE rfl) ?_|refine Args.cons _ _ _ _ _ rfl (Hc _) ?_|refine Args.cons _ _ _ _ _ rfl (Ge _) ?_|refine Args.cons _ _ _ _ _ rfl (Hf rfl (by repeat (first|exact AZ _|exact LeA.nil _|exact LeL.refl _|refine LeA.agg ?_|refine LeA.tup ?_|exact LeL.nil|refine LeL.cons ?_ ?_|exact LeA.any _))) ?_)) rfl rfl (Wh x) ?_);rintro r rfl;refine BX (h:=?_)
  first|refine A6 rfl (E2 rfl rfl rfl (by simp;omega) (by repeat constructor) ?_)|refine A6 rfl (E3 rfl rfl (by simp;omega) (by repeat constructor) ?_)
  refine a_ (h:=AP (Ai (t_ (AR (B8 (h:=m_ (h:=AP (?_))))))));refine AJ ?_;refine⟨_,_,?_,⟨j+1,by omega,rfl,rfl⟩,(by rw[e];exact(wk 0 1))⟩;omega
 have hc2:=bp hb2;have e:=C9 CG hj hc2;subst e;rw[List.take_length];refine BF (Ah (Ah (BG (t_ (w_ (m_ (h:=a_ (h:=e_ (A4 (?_))))))))));refine A7 ?_;rfl
theorem Wj(n:Nod)(hn:n.entries.length≤1000):AFn prog 227 [.agg (Ap n)] (fun r=>r= .agg (Ap n)):=by
 refine enter Tryz.func227 rfl rfl rfl rfl rfl 0 rfl ?_;refine w_ (b_ (h:=Aa (h:=e_ (w_ (f_ (h:=l_ (h:=?_)))))));refine A6 rfl (AB (Wi n.entries hn) ?_);rintro r rfl;refine f_ (h:=s_ (h:=e_ (w_ (l_ (h:=s_ (h:=e_ (A4 (?_))))))));refine A7 ?_;rfl
end
section
variable {P:Program}{ev:Operand→Option AV}{h:AH}{R:AV→AH→Prop}{d:Option Tmp}{ty:TypeId}{pos:String}{af:Array Edge}{gd:Option (Nat×Bool)}
theorem Jy{T yT:TypeId}{x y:Operand}(hp:P.underlying T=some (.pointer (P.pointee T)))(hx:ev x=some (.v (.pointer none)))(hy:ev y=some (.v (.pointer none)))(hR:R (.v (.bool true)) h):AStep P ⟨d, .binOp .eql T x y yT,ty,pos,af,gd⟩ ev h R:=
 DP hx hy (fun w=>by simp[eqGuard,run_eql_pointer_nil (P:=P) (w:=w) T none hp]) hR
theorem Jz{T yT:TypeId}{x y:Operand}{row:List AV}(hp:P.underlying T=some (.pointer (P.pointee T)))(hx:ev x=some (.fp row))(hy:ev y=some (.v (.pointer none)))(hR:R (.v (.bool false)) h):AStep P ⟨d, .binOp .eql T x y yT,ty,pos,af,gd⟩ ev h R:=by
 refine Ch (fun _ G w ec _ he=>?_) hR;have h1:=he x (by simp[Op.operands]) _ hx;have h2:=he y (by simp[Op.operands]) _ hy;simp only[rep]at h1 h2;obtain⟨b,off,h3,_⟩:=h1;refine⟨.bool false,?_,by simp only[rep]⟩;simp[execOp,h2,h3,eqGuard,run_eql_pointer_nil (P:=P) (w:=w) T (some ⟨b,off,none⟩) hp]
end
section
theorem GM(f:Af)(a:AG)(hf:FlsB f):AFn prog 169 [.agg (At f), .agg (AF a)] (fun r=>r= .tup [.agg (Ap (Au f a)), .v (.bool (Ck f a))]):=by
 have hen:=Ku hf a;refine enter Tryz.func169 rfl rfl rfl rfl rfl 0 rfl ?_;refine w_ (b_ (h:=b_ (h:=Aa (h:=a_ (h:=e_ (w_ (l_ (h:=l_ (h:=?_)))))))));refine A6 rfl (AB (Ow f a hf) ?_);rintro r (⟨e,rfl⟩|⟨n,e,rfl⟩)
 ·skip
  refine a_ (h:=e_ (q_ (w_ (m_ (h:=?_)))))
  first|refine A6 rfl (Jy (by kernel_rfl) rfl rfl ?_)|refine A6 rfl (Jz (by kernel_rfl) rfl rfl ?_)
  refine e_ (?_);refine A9 rfl (fun hb1=>?_) (fun hb1=>?_)
  ·have hc1:=bp hb1;refine w_ (AX (h:=s_ (h:=a_ (h:=e_ (A4 (A8 (?_)))))));refine Av (r:= .tup [.agg (Ap (Au f a)), .v (.bool (Ck f a))]) none (h5:=?_) (h6:=⟨rfl,rfl,rfl⟩);rw[show Au f a=Nod.zero by simp[Au,e],show Ck f a=false by simp[Ck,e]];exact(by repeat (first|exact AZ _|exact LeA.nil _|exact LeL.refl _|refine LeA.agg ?_|refine LeA.tup ?_|exact LeL.nil|refine LeL.cons ?_ ?_|exact LeA.any _))
  have hc1:=bp hb1;exfalso;first|contradiction|omega
 skip
 refine a_ (h:=e_ (q_ (w_ (m_ (h:=?_)))))
 first|refine A6 rfl (Jy (by kernel_rfl) rfl rfl ?_)|refine A6 rfl (Jz (by kernel_rfl) rfl rfl ?_)
 refine e_ (?_);refine A9 rfl (fun hb2=>?_) (fun hb2=>?_)
 ·have hc2:=bp hb2;exfalso;first|contradiction|omega
 have hc2:=bp hb2;refine AD (w_ (m_ (h:=k_ (h:=l_ (h:=?_)))));refine A6 rfl (AB (Wj n (by simpa[Au,e]using hen)) ?_);rintro r rfl;refine s_ (h:=a_ (h:=e_ (A4 (?_))));refine A7 ?_;rw[show Au f a=n by simp[Au,e],show Ck f a=true by simp[Ck,e]];rfl
end
section
theorem Wl(s:Spc)(a:AG)(hs:SpcB s):AFn prog 281 [.agg (Aj s), .agg (AF a)] (fun r=>r= .v (.bool (Ax s.files a))):=by
 refine enter Tryz.func281 rfl rfl rfl rfl rfl 0 rfl ?_;refine w_ (b_ (h:=b_ (h:=a_ (h:=e_ (w_ (f_ (h:=l_ (h:=l_ (h:=?_)))))))));refine A6 rfl (AB (GM s.files a hs.files) ?_);rintro r rfl;refine m_ (h:=x_ (h:=x_ (h:=Aa (h:=s_ (h:=a_ (h:=e_ (w_ (m_ (h:=m_ (h:=?_))))))))));refine AT true rfl rfl (fun hb1=>?_) (fun hb1=>?_)
 ·have hc1:=bp hb1;refine f_ (h:=l_ (h:=AK (h:=AA (h:=a_ (h:=e_ (A4 (?_)))))));refine A7 ?_;exact vb (by rw[FB];simp[*])
 have hc1:=bp hb1;refine A3 (h:=A3 (h:=A3 (h:=AE (h:=a_ (h:=e_ (A4 (?_)))))));refine A7 ?_;exact vb (by rw[FB];simp[*])
end
def EH(c:Kt):List AV:=[.v (.int .i64 c.1.1), .v (.int .i64 c.1.2), .v (.string c.2.1), .v (.int .i64 c.2.2.1.1), .v (.int .i64 c.2.2.1.2), .v (.int .i64 c.2.2.2.1), .v (.int .i64 c.2.2.2.2)]
section
theorem JT(d:AG)(name:AM)(o n:AG):AFn prog 233 [.agg (AF d), .v (.string name), .agg (AF o), .agg (AF n)] (fun r=>r= .sl 7 [EH (d,name,o,n)] none):=by
 refine enter Tryz.func233 rfl rfl rfl rfl rfl 0 rfl ?_;refine w_ (b_ (h:=b_ (h:=b_ (h:=a_ (h:=e_ (w_ (l_ (h:=m_ (h:=l_ (h:=l_ (h:=AX (h:=BX (h:=a_ (h:=e_ (A4 (?_))))))))))))))));refine A7 ?_;rfl
theorem SC{n:Int}(h:n<1∨3<n):E6 n=([],50):=by unfold E6;rw[if_pos h]
theorem Wm{k:Nat}(h1:¬(k:Int)<1)(h2:¬3<(k:Int)):E6 (k:Int)=(List.replicate k Ju,0):=by unfold E6;rw[if_neg (by omega)];simp
theorem SD(n:Int):AFn prog 110 [.v (.int .i64 n)] (fun r=>r= .tup [.agg (At (E6 n).1), .v (.int .i64 (E6 n).2)]):=by
 refine enter Tryz.func110 rfl rfl rfl rfl rfl 0 rfl ?_;refine w_ (Aa (h:=a_ (h:=e_ (q_ (w_ (m_ (h:=B4 (h:=m_ (h:=?_)))))))));refine AT false rfl rfl (fun hb1=>?_) (fun hb1=>?_)
 ·have hc1:=bp hb1;refine A3 (h:=A3 (h:=AA (h:=e_ (B6 (h:=w_ (AX (h:=s_ (h:=a_ (h:=e_ (A4 (A8 (?_))))))))))));refine Av (r:= .tup [.agg (At (E6 n).1), .v (.int .i64 (E6 n).2)]) none (h5:=?_) (h6:=⟨rfl,rfl,rfl⟩);rw[SC (by omega)];exact(by repeat (first|exact AZ _|exact LeA.nil _|exact LeL.refl _|refine LeA.agg ?_|refine LeA.tup ?_|exact LeL.nil|refine LeL.cons ?_ ?_|exact LeA.any _))
 have hc1:=bp hb1;refine m_ (h:=Ba (h:=AE (h:=e_ (?_))));refine A9 rfl (fun hb2=>?_) (fun hb2=>?_)
 ·have hc2:=bp hb2;refine w_ (AX (h:=s_ (h:=a_ (h:=e_ (A4 (A8 (?_)))))));refine Av (r:= .tup [.agg (At (E6 n).1), .v (.int .i64 (E6 n).2)]) none (h5:=?_) (h6:=⟨rfl,rfl,rfl⟩);rw[SC (by omega)];exact(by repeat (first|exact AZ _|exact LeA.nil _|exact LeL.refl _|refine LeA.agg ?_|refine LeA.tup ?_|exact LeL.nil|refine LeL.cons ?_ ?_|exact LeA.any _))
 have hc2:=bp hb2;obtain⟨k,rfl⟩:=Int.eq_ofNat_of_zero_le (show 0≤n by omega);refine AD (w_ (Aa (h:=e_ (q_ (w_ (a_ (h:=e_ (Ab (?_)))))))));refine JJ 1 0 148 2 rfl rfl (by repeat constructor) (by repeat constructor) (by repeat constructor) ?_;refine BT (fun m s=>∃j:Nat,j≤k∧m=k - j∧s=⟨look [(0, .v (.int .i64 (k:Int))),(2, .bp 0 0),(4, .bp 1 0),(5, .v (.int .i64 (j:Int)))],⟨[[.v (.slice none 0 0)],[.sl 2 ((List.replicate j Ju).map Bo) (some 0)]],[(148,2,(List.replicate j Ju).map Bo)]⟩⟩) (k) ((wk 2 1)) (⟨0,by omega,rfl,rfl⟩) ?_;rintro m s ⟨j,hj,rfl,rfl⟩;refine q_ (w_ (m_ (h:=m_ (h:=B4 (h:=e_ (?_))))));refine A9 rfl (fun hb3=>?_) (fun hb3=>?_)
 ·have hc3:=bp hb3;refine AD (q_ (Ab (AR (f_ (h:=l_ (h:=?_))))));refine A6 rfl (Hj (y:= .agg (Ap Ml)) (EE ⟨rfl,rfl⟩) ?_);refine BX (h:=AX (h:=BX (h:=?_)))
  first|refine A6 rfl (E2 rfl rfl rfl (by simp;omega) (by repeat constructor) ?_)|refine A6 rfl (E3 rfl rfl (by simp;omega) (by repeat constructor) ?_)
  refine f_ (h:=s_ (h:=AP (Ai (t_ (AR (m_ (h:=B8 (h:=a_ (h:=AP (?_))))))))));refine AJ ?_;refine⟨_,_,?_,⟨j+1,by omega,rfl,rfl⟩,(by rw[List.replicate_succ',List.map_append];exact(wk 2 1))⟩;omega
 have hc3:=bp hb3;obtain rfl:j=k:=by omega
 refine BF (Ah (Ah (BG (t_ (w_ (l_ (h:=s_ (h:=a_ (h:=e_ (A4 (?_)))))))))));refine A7 ?_;rw[Wm hc1 hc2];rfl
end
def GN(f:Af)(top:AG):Nat→AG→Bool
 |0,_=>false
 |n+1,a=>if a.1≠top.1 then false else if a=top then true else GN f top n (a.1,(Au f a).parent)
section
theorem Wn(f:Af)(a top:AG)(hf:FlsB f):AFn prog 236 [.agg (At f), .agg (AF a), .agg (AF top)] (fun r=>r= .v (.bool (GN f top 17 a))):=by
 refine enter Tryz.func236 rfl rfl rfl rfl rfl 0 rfl ?_;refine w_ (b_ (h:=b_ (h:=b_ (h:=a_ (h:=e_ (q_ (w_ (a_ (h:=e_ (Ab (?_)))))))))));refine BT (fun m s=>∃(j:Nat) (b:AG),j≤17∧m=17 - j∧GN f top (17 - j) b=GN f top 17 a∧s=⟨look [(3, .bp 0 0),(4, .bp 1 0),(5, .bp 2 0),(7, .v (.int .i64 (j:Int)))],⟨[At f,AF b,AF top],[]⟩⟩) (17) ((wk 3 0)) (⟨0,a,by omega,rfl,rfl,rfl⟩) ?_;rintro m s ⟨j,b,hj,rfl,hit,rfl⟩;refine q_ (w_ (m_ (h:=Dn (h:=m_ (h:=?_)))));refine AT true rfl rfl (fun hb1=>?_) (fun hb1=>?_)
 ·have hc1:=bp hb1;obtain⟨k,hk⟩:∃k,17 - j=k+1:=⟨16 - j,by omega⟩;rw[hk,GN]at hit;refine f_ (h:=l_ (h:=f_ (h:=l_ (h:=AK (h:=AA (h:=e_ (?_)))))));refine A9 rfl (fun hb2=>?_) (fun hb2=>?_)
  ·have hc2:=bp hb2;rw[if_neg (by simpa using hc2)]at hit;refine AD (q_ (Ab (q_ (w_ (l_ (h:=l_ (h:=?_)))))));refine A6 rfl (E4 rfl rfl (by repeat constructor) (by repeat constructor) (fun w=>Jw _ _ _ _ w) (by kernel_rfl) ?_);refine e_ (?_);refine A9 rfl (fun hb3=>?_) (fun hb3=>?_)
   ·have hc3:=bp hb3;rw[if_pos (show b=top from hc3)]at hit;refine w_ (a_ (h:=e_ (A4 (A8 (AN (A8 (A8 (AN (A8 (?_))))))))));refine A7 ?_;exact vb hit
   have hc3:=bp hb3;rw[if_neg (show¬b=top from hc3)]at hit;refine AD (w_ (l_ (h:=l_ (h:=?_))));refine A6 rfl (AB (Ec f b hf) ?_);rintro r rfl;refine m_ (h:=x_ (h:=x_ (h:=Aa (h:=s_ (h:=a_ (h:=e_ (AR (f_ (h:=l_ (h:=f_ (h:=s_ (h:=AP (Ai (t_ (AR (m_ (h:=B8 (h:=a_ (h:=AP (?_))))))))))))))))))));refine AJ ?_;refine⟨_,_,?_,⟨j+1,(b.1,(Au f b).parent),by omega,rfl,(by rw[show 17 - (j+1)=k by omega];exact hit),rfl⟩,(wk 3 0)⟩;omega
  have hc2:=bp hb2;rw[if_pos hc2]at hit;refine BF (Ah (Ah (BG (t_ (w_ (a_ (h:=e_ (A4 (?_)))))))));refine A7 ?_;exact vb hit
 have hc1:=bp hb1;have ej:17 - j=0:=by omega
 rw[ej,GN]at hit;refine A3 (h:=A3 (h:=A3 (h:=A3 (h:=A3 (h:=AE (h:=e_ (Bj (h:=BF (Ah (Ah (BG (t_ (w_ (a_ (h:=e_ (A4 (?_)))))))))))))))));refine A7 ?_;exact vb hit
end
theorem SetAt.det{α:Type}{l xs a b:List α}{n:Nat}(h:SetAt l n xs a):SetAt l n xs b→a=b:=by
 induction h generalizing b with
 |nil l n=>intro k;cases k;rfl
 |here a x l xs l' _ ih=>intro k;cases k with|here _ _ _ _ _ k=>rw[ih k]
 |there a x l xs l' n _ ih=>intro k;cases k with|there _ _ _ _ _ _ k=>rw[ih k]
def CC(sz cap:Nat)(rows:List (List AV)):List AV:=rows.flatten++List.replicate ((cap - rows.length) * sz) .any
theorem SE{sz cap:Nat}{rows:List (List AV)}(h:∀r∈rows,r.length=sz)(hc:rows.length≤cap):(CC sz cap rows).length=cap * sz:=by
 unfold CC;rw[List.length_append,JK h,List.length_replicate,←Nat.add_mul]
 congr 1
 omega
theorem Wo{sz cap:Nat}{rows:List (List AV)}(h:∀r∈rows,r.length=sz):((CC sz cap rows).drop 0).take (rows.length * sz)=rows.flatten:=by
 unfold CC;rw[List.drop_zero,List.take_left' (JK h)]
theorem Wp{sz cap:Nat}{rows:List (List AV)}{r row':List AV}(h:∀x∈rows,x.length=sz)(hr:r.length=sz)(hp:0<sz)(hc:rows.length+1≤cap)(hs:SetAt (CC sz cap rows) (0+rows.length * sz) r row'):row'=CC sz cap (rows++[r]):=by
 refine hs.det ?_;unfold CC
 have e:List.replicate ((cap - rows.length) * sz) AV.any=List.replicate sz AV.any++List.replicate ((cap - (rows++[r]).length) * sz) AV.any:=by
  rw[List.replicate_append_replicate]
  congr 1
  rw[show(rows++[r]).length=rows.length+1 by simp,show cap - rows.length=(cap - (rows.length+1))+1 by omega,Nat.add_mul];omega
 rw[e,Nat.zero_add,List.flatten_append,List.append_assoc];have key:=SetAt.right (SetAt.whole (xs:=r) (l:=List.replicate sz AV.any) (b:=List.replicate ((cap - (rows++[r]).length) * sz) AV.any) (by simp[hr])) rows.flatten (fun e=>by rw[e]at hr;simp at hr;omega);rw[JK h,Nat.add_zero]at key
 simpa using key
theorem Wq{sz cap:Nat}{rows:List (List AV)}{r:List AV}(h:∀x∈rows,x.length=sz){cap0 n:Nat}(hn:n=rows.length):((CC sz cap0 rows).drop 0).take (n * sz)++r++List.replicate ((cap - (n+1)) * sz) .any=CC sz cap (rows++[r]):=by
 subst hn;rw[Wo h];unfold CC;simp
def Ff(d:Dvc)(j cap1:Nat):List AV:=[.v (.int .i64 d.next), .bs j 0 8 d.nodes.length cap1]
theorem SF(l:List Dvc):∀r∈l.map Bo,r.length=2:=by
 intro r hr;obtain⟨d,_,rfl⟩:=List.mem_map.1 hr;rfl
theorem Hq(l:List Nod):∀r∈l.map Ap,r.length=8:=by
 intro r hr;obtain⟨d,_,rfl⟩:=List.mem_map.1 hr;rfl
end Go.Proofs.YtbgnigjfkbmceaaGreatDoor
namespace Go.Proofs.YtbgnigjfkbmceaaGreatDoor.Old
open Go.RowKit
def Ox(D:Nat→Prop)(w w':World):Prop:=∀b,D b→w'.heap[b]?=w.heap[b]?
def Old(w:World):Nat→Prop:=fun b=>b<w.heap.size
def Oy(w w':World):Nat→Prop:=fun b=>w.heap.size≤b∧b<w'.heap.size
def few:Nat:=65536
theorem Mr{B:Nat}{a w:World}(h:Below B a w)(n:Nat):Below B a (w.drewN n):=⟨h.os,h.tape,h.output,h.size,h.block⟩
theorem Ms{w w':World}(h:Below w.heap.size w w'):Ox (Old w) w w':=fun b hb=>h.block b hb
theorem Kz{w w':World}(h:Below w.heap.size w w')(g:Option Nat):w.grownBy w' g:=⟨h.os,h.tape,h.output,h.size,fun k hk _=>h.block k hk⟩
def RowL{α:Type}(sz:Nat)(cell:α→Nat→Value)(w:World)(D:Nat→Prop)(A:Option Addr)(xs:List α):Prop:=
 0<xs.length→∃b off,A=some ⟨b,off,none⟩∧D b∧∀i x j,xs[i]?=some x→j<sz→w.cell? ⟨b,off+i * sz+j,none⟩=some (cell x j)
def ListR{α:Type}(sz:Nat)(cell:α→Nat→Value)(w:World)(D:Nat→Prop)(v:Value)(xs:List α):Prop:=
 ∃A c,v= .slice A xs.length c∧xs.length≤c∧xs.length≤few∧RowL sz cell w D A xs
section
variable {α:Type}{sz:Nat}{cell:α→Nat→Value}{w w':World}{D D':Nat→Prop}{A:Option Addr}{v:Value}{xs:List α}
theorem RowL.keep(h:RowL sz cell w D A xs)(hs:Ox D w w'):RowL sz cell w' D A xs:=by
 intro hn;obtain⟨b,off,rfl,hb,hc⟩:=h hn;exact⟨b,off,rfl,hb,fun i x j hi hj=>(World.cell?_of_block (w:=w) (a:=⟨b,off+i * sz+j,none⟩) (hs b hb)).trans (hc i x j hi hj)⟩
theorem ListR.keep(h:ListR sz cell w D v xs)(hs:Ox D w w'):ListR sz cell w' D v xs:=by
 obtain⟨A,c,rfl,h1,h2,h3⟩:=h;exact⟨A,c,rfl,h1,h2,h3.keep hs⟩
theorem ListR.nil_:ListR sz cell w D (.slice none 0 0) []:=⟨none,0,rfl,B3 _,BR _,fun h=>absurd h (by simp)⟩
end
def entCell(e:BM):Nat→Value
 |0=> .string e.1
 |_=> .int .i64 e.2
def nodCell(n:Nod×Value):Nat→Value
 |0=> .int .i64 n.1.ino
 |1=> .int .i64 n.1.kind
 |2=> .int .i64 n.1.mode
 |3=> .int .i64 n.1.uid
 |4=> .int .i64 n.1.gid
 |5=> .int .i64 n.1.parent
 |6=> .string n.1.target
 |_=>n.2
def dvcCell(d:Dvc×Value):Nat→Value
 |0=> .int .i64 d.1.next
 |_=>d.2
def L0(s:AM):Nat→Value
 |_=> .string s
abbrev EntsR:=ListR 2 entCell
abbrev SG:=ListR 1 L0
def D8(at_:AG):Value:= .agg #[.int .i64 at_.1, .int .i64 at_.2]
def NodsR(w:World)(D:Nat→Prop)(v:Value)(ns:List Nod):Prop:=
 ∃xs:List (Nod×Value),xs.map (·.1)=ns∧ListR 8 nodCell w D v xs∧∀x∈xs,EntsR w D x.2 x.1.entries
def Wr(w:World)(D:Nat→Prop)(v:Value)(f:Af):Prop:=
 ∃xs:List (Dvc×Value),xs.map (·.1)=f∧ListR 2 dvcCell w D v xs∧∀x∈xs,NodsR w D x.2 x.1.nodes
def FlsR(w:World)(D:Nat→Prop)(v:Value)(f:Af):Prop:=∃d,v= .agg #[d]∧Wr w D d f
theorem JU{a b:Bool}(h:a=b):Ending.returned (.bool a)= .returned (.bool b):=by rw[h]
theorem Ws{α β:Type}{g:α→β}{xs:List α}{ys:List β}(h:xs.map g=ys):xs.length=ys.length:=by
 subst h;simp
theorem Hr{w:World}{g:Nat}{cs:Array Value}{t:TypeId}{fz:Nat×Nat}(h:w.heap[g]?=some (.cells cs t fz))(i:Nat):w.cell? ⟨g,i,none⟩=cs[i]?:=by
 simp[World.cell?,h]
theorem Oz{w:World}{g:Nat}{cs:Array Value}{t:TypeId}(h:w.heap[g]?=some (.cells cs t (0,0)))(i:Nat):w.frozen? ⟨g,i,none⟩=false:=by
 simp[World.frozen?,h]
theorem L3{w w':World}{b:Nat}{row:Option Nat}{o:Obj}(h:w.heap[b]?=some o)(hg:w.grownBy w' row)(hne:some b≠row):w'.heap[b]?=some o:=by
 have hb:b<w.heap.size:=by
  rcases Nat.lt_or_ge b w.heap.size with hlt|hge
  ·exact hlt
  rw[Array.getElem?_eq_none hge]at h;cases h
 exact(hg.block b hb hne).trans h
theorem CY{w:World}{b:Nat}{o:Obj}(h:w.heap[b]?=some o)(o':Obj):(w.alloc o').heap[b]?=some o:=by
 have hb:b<w.heap.size:=by
  rcases Nat.lt_or_ge b w.heap.size with hlt|hge
  ·exact hlt
  rw[Array.getElem?_eq_none hge]at h;cases h
 exact(Below.heap_alloc w o' b hb).trans h
theorem Bv{w:World}{g:Nat}{cs:Array Value}{t:TypeId}(h:w.heap[g]?=some (.cells cs t (0,0))):(∀i,w.cell? ⟨g,i,none⟩=cs[i]?)∧(∀i,w.frozen? ⟨g,i,none⟩=false):=
 ⟨fun i=>Hr h i,fun i=>Oz h i⟩
theorem K0{w:World}{b:Nat}{cs:Array Value}{t:TypeId}{fz:Nat×Nat}(h:w.heap[b]?=some (.cells cs t fz))(i:Nat)(u:Value):(w.setCell ⟨b,i,none⟩ u).heap[b]?=some (.cells (cs.setIfInBounds i u) t fz):=by
 simp[World.setCell,Array.getElem?_modify,h]
theorem JV{w:World}{b:Nat}{o:Obj}(h:w.heap[b]?=some o){p:Addr}(hp:b≠p.block)(u:Value):(w.setCell p u).heap[b]?=some o:=(Below.heap_setCell w p u b hp).trans h
theorem BS{w w':World}{b B:Nat}{o:Obj}(h:w.heap[b]?=some o)(hg:Below B w w')(hb:b<B):w'.heap[b]?=some o:=(hg.block b hb).trans h
theorem Es(w:World)(o1:Obj):Below w.heap.size w (w.alloc o1):=by
 exact(Below.refl _ w).alloc (B3 _) _
theorem L4(w:World)(o1:Obj):(w.alloc o1).heap.size=w.heap.size+1:=by simp
theorem Gr(w:World)(o1:Obj):(w.alloc o1).heap[w.heap.size]?=some o1:=(by have:=heap_alloc_new w o1;simpa using this)
theorem Wt{w w1:World}{o1:Obj}(h:Below (w.alloc o1).heap.size (w.alloc o1) w1):Below w.heap.size w w1∧w.heap.size+1≤w1.heap.size∧w1.heap[w.heap.size]?=some o1:=by
 have hs:=h.size;rw[L4]at hs;exact⟨(Es w o1).trans (h.mono (by simp<;>omega)),hs,BS (Gr w o1) h (by simp)⟩
theorem GO(w:World)(o1 o2:Obj):Below w.heap.size w ((w.alloc o1).alloc o2):=by
 exact(Es w o1).alloc (by simp<;>omega) _
theorem SH(w:World)(o1 o2:Obj):((w.alloc o1).alloc o2).heap.size=w.heap.size+2:=by simp
theorem Gs(w:World)(o1 o2:Obj):((w.alloc o1).alloc o2).heap[w.heap.size]?=some o1:=CY (Gr w o1) _
theorem Gt(w:World)(o1 o2:Obj):((w.alloc o1).alloc o2).heap[w.heap.size+1]?=some o2:=(by have:=heap_alloc_new (w.alloc o1) o2;simpa using this)
theorem L5(w:World)(o1 o2 o3:Obj):Below w.heap.size w (((w.alloc o1).alloc o2).alloc o3):=by
 exact(GO w o1 o2).alloc (by simp<;>omega) _
theorem L6(w:World)(o1 o2 o3:Obj):(((w.alloc o1).alloc o2).alloc o3).heap[w.heap.size]?=some o1:=CY (Gs w o1 o2) _
theorem L7(w:World)(o1 o2 o3:Obj):(((w.alloc o1).alloc o2).alloc o3).heap[w.heap.size+1]?=some o2:=CY (Gt w o1 o2) _
theorem L8(w:World)(o1 o2 o3:Obj):(((w.alloc o1).alloc o2).alloc o3).heap[w.heap.size+1+1]?=some o3:=(by have:=heap_alloc_new ((w.alloc o1).alloc o2) o3;simpa using this)
theorem P0(w:World)(o1 o2 o3 o4:Obj):Below w.heap.size w ((((w.alloc o1).alloc o2).alloc o3).alloc o4):=by
 exact(L5 w o1 o2 o3).alloc (by simp<;>omega) _
theorem SJ(w:World)(o1 o2 o3 o4:Obj):((((w.alloc o1).alloc o2).alloc o3).alloc o4).heap[w.heap.size]?=some o1:=CY (L6 w o1 o2 o3) _
theorem P3(w:World)(o1 o2 o3 o4:Obj):((((w.alloc o1).alloc o2).alloc o3).alloc o4).heap[w.heap.size+1]?=some o2:=CY (L7 w o1 o2 o3) _
theorem SK(w:World)(o1 o2 o3 o4:Obj):((((w.alloc o1).alloc o2).alloc o3).alloc o4).heap[w.heap.size+1+1]?=some o3:=CY (L8 w o1 o2 o3) _
theorem P4(w:World)(o1 o2 o3 o4:Obj):((((w.alloc o1).alloc o2).alloc o3).alloc o4).heap[w.heap.size+1+1+1]?=some o4:=(by have:=heap_alloc_new (((w.alloc o1).alloc o2).alloc o3) o4;simpa using this)
end Go.Proofs.YtbgnigjfkbmceaaGreatDoor.Old
