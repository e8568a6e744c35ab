/-
  Part of the proof that TopTransferMended holds.
-/
import Derived.Test.YtmailpnpjcpodaaGreatDoorT37
import Derived.Test.YtmailpnpjcpodaaGreatDoorT38
import Derived.JoinedOf
import Derived.ChangeSame
import Derived.Carry
import Derived.SizedLaws
import Derived.OpenShut
import Derived.WideShapes
import Derived.Deep.Slices
import Derived.RowKit
set_option linter.unusedVariables false
set_option linter.unusedSimpArgs false
set_option linter.unusedSectionVars false
namespace Go.Ev
open Go Go.Proofs
attribute [local irreducible] evFn evBody evRound
attribute [local irreducible] evStage evRest
set_option maxRecDepth 20000
structure MenH(x:List Int)(ch c:Int)(cs:List (List Int))(n:Nat)(cnt lost par:Int):Prop where
 C:Cut x ch c cs n
 h12:n≤12
 x96:x.length≤96
 c1:1≤cnt
 c4:cnt≤4
 l0:0≤lost
 l1:lost≤4095
section
variable {x:List Int} {ch c:Int} {cs:List (List Int)} {n:Nat} {cnt lost par:Int} {K:AV→List Blk→Prop}
theorem MenH.ll(H:MenH x ch c cs n cnt lost par):(lsJ lost 0 (blkRows ch c cs)).length≤12∧ ∀y ∈ lsJ lost 0 (blkRows ch c cs),0≤y∧y≤12:=by
 have h12:=H.h12
 have hl:(blkRows ch c cs).length=n:=by rw[rows_len,H.C.len]
 rw[ls_lost,hl]
 have:=lostJ_len lost n 0
 refine⟨by omega,fun y hy=> ?_⟩
 have:=(lostJ_mem lost n 0 y).1 hy
 omega
theorem MenH.tl(H:MenH x ch c cs n cnt lost par):(kpJ lost 0 (blkRows ch c cs)).length≤12:=by
 have h12:=H.h12
 have hl:(blkRows ch c cs).length=n:=by rw[rows_len,H.C.len]
 have:=(kp_sub lost (blkRows ch c cs) 0).length_le
 omega
theorem MenH.r(H:MenH x ch c cs n cnt lost par)(h:K (.one (.bool true)) []):rhsR x (dtJ lost 0 (blkRows ch c cs) (List.replicate n [0,0,0,0,0,0,0,0])) (parM ((blkRows ch c cs).map samX) cnt) (lsJ lost 0 (blkRows ch c cs)) (lostJ par 0 cnt.toNat) cnt n K:=by
 have hg:=H.C.grp H.h12 H.c1 H.c4 lost par
 have h1:=H.c1
 have h4:=H.c4
 have hS:=there_len par cnt.toNat 0
 have hw:IntKind.i64.wrap (cnt-((lostJ par 0 cnt.toNat).length:Int))=cnt-((lostJ par 0 cnt.toNat).length:Int):=wrap_id (by omega) (by omega)
 have hl:((blkRows ch c cs).map samX).length=n:=by rw[List.length_map,rows_len,H.C.len]
 refine And.intro hg.g (And.intro hg.g ?_)
 rw[hw]
 by_cases hc:((lsJ lost 0 (blkRows ch c cs)).length:Int)>cnt-((lostJ par 0 cnt.toNat).length:Int)
 ·obtain⟨e1,e2⟩:=hg.lost (by omega)
  rw[decide_eq_true hc,cond_true,e1,e2]
  exact h
 ·obtain⟨e1,e2⟩:=hg.fine (by omega)
  rw[decide_eq_false hc,cond_false,e1,e2,hl,bne_self_eq_false,cond_false,bne_self_eq_false,cond_false]
  have hxl:=H.C.xl
  exact⟨⟨H.x96,by omega,H.C.sam8,by decide,by omega,fun j hj=>H.C.at_x hj⟩,h⟩
theorem MenH.s(H:MenH x ch c cs n cnt lost par)(h1:1≤(kpJ lost 0 (blkRows ch c cs)).length)(h:K (.one (.bool true)) []):rhsS x (dtJ lost 0 (blkRows ch c cs) (List.replicate n [0,0,0,0,0,0,0,0])) (parM ((blkRows ch c cs).map samX) cnt) (kpJ lost 0 (blkRows ch c cs)) (lsJ lost 0 (blkRows ch c cs)) (lostJ par 0 cnt.toNat) (msJ c (kpJ lost 0 (blkRows ch c cs)) (lsJ lost 0 (blkRows ch c cs))) ch cnt n K:=by
 obtain⟨f1,f2,f3⟩:=H.C.mis H.h12 lost rfl h1
 have hr:=H.r h
 have hm:(msJ c (kpJ lost 0 (blkRows ch c cs)) (lsJ lost 0 (blkRows ch c cs))).length≤12:=by
  rw[ms_filter,List.length_map]
  exact Nat.le_trans (List.length_filter_le _ _) H.ll.1
 unfold rhsS
 rw[decide_eq_true (show((kpJ lost 0 (blkRows ch c cs)).length:Int)>0 by omega),cond_true]
 refine And.intro (by have:=H.tl;omega) (And.intro f1 ?_)
 rw[f2,bne_self_eq_false,cond_false,f3]
 refine And.intro (by omega) ?_
 rw[beq_self_eq_true]
 exact hr
theorem isE{α:Type}{l:List α}(h:l.isEmpty=true):l=[]:=List.isEmpty_iff.1 h
theorem notE{α:Type}{l:List α}(h:l.isEmpty=false):1≤l.length:=by cases l with|nil=>cases h|cons a b=>simp
theorem tH0(H:MenH x ch c cs n cnt lost par){D P T:List (List Int)}(hD:D=dtJ lost 0 (blkRows ch c cs) (List.replicate n [0,0,0,0,0,0,0,0]))(hP:P=parM ((blkRows ch c cs).map samX) cnt)(hL:lsJ lost 0 (blkRows ch c cs)=[])(hQ:lostJ par 0 cnt.toNat=[])(hT:kpJ lost 0 (blkRows ch c cs)=T)(hT1:1≤T.length)(hM:msJ c T []=[])(h:K (.one (.bool true)) []):evRest Emen Tryz.f5 25 { t:=([.any,.one (.ptr 0 1 0 0),.any,.any,.any,.one (.int .i64 ((n:Int))),.any,.any,.any,.any,.any,.any,.any,.any,.any,.one (.ptr 1 1 0 0),.one (.own 4 11),.one .nil]++List.replicate 337 .any),σ:=[.cells [.data (.ints .i64 x),.int .i64 ch,.int .i64 c,.int .i64 cnt,.int .i64 lost,.int .i64 par],.cells [.own 2 8,.own 3 8,.nil,.nil],.row 22 (.mat .i64 8 D),.row 22 (.mat .i64 8 P),.row 24 (.mat .i64 11 T)] } K:=by
 rw[exH0 (n:Int) ch c cnt lost par x D P T K]
 have:=H.s (K:=K) (by rw[hT];exact hT1) h
 rw[hL,hQ,hT,hM,← hD,← hP] at this
 exact this
theorem tH1(H:MenH x ch c cs n cnt lost par){D P T:List (List Int)}{Q:List Int}(hD:D=dtJ lost 0 (blkRows ch c cs) (List.replicate n [0,0,0,0,0,0,0,0]))(hP:P=parM ((blkRows ch c cs).map samX) cnt)(hL:lsJ lost 0 (blkRows ch c cs)=[])(hQ:lostJ par 0 cnt.toNat=Q)(hT:kpJ lost 0 (blkRows ch c cs)=T)(hT1:1≤T.length)(hM:msJ c T []=[])(h:K (.one (.bool true)) []):evRest Emen Tryz.f5 25 { t:=([.any,.one (.ptr 0 1 0 0),.any,.any,.any,.one (.int .i64 ((n:Int))),.any,.any,.any,.any,.any,.any,.any,.any,.any,.one (.ptr 1 1 0 0),.one (.own 5 11),.one .nil]++List.replicate 337 .any),σ:=[.cells [.data (.ints .i64 x),.int .i64 ch,.int .i64 c,.int .i64 cnt,.int .i64 lost,.int .i64 par],.cells [.own 2 8,.own 3 8,.nil,.own 4 1],.row 22 (.mat .i64 8 D),.row 22 (.mat .i64 8 P),.row 3 (.ints .i64 Q),.row 24 (.mat .i64 11 T)] } K:=by
 rw[exH1 (n:Int) ch c cnt lost par x D P T Q K]
 have:=H.s (K:=K) (by rw[hT];exact hT1) h
 rw[hL,hQ,hT,hM,← hD,← hP] at this
 exact this
theorem tH2(H:MenH x ch c cs n cnt lost par){D P:List (List Int)}{L:List Int}(hD:D=dtJ lost 0 (blkRows ch c cs) (List.replicate n [0,0,0,0,0,0,0,0]))(hP:P=parM ((blkRows ch c cs).map samX) cnt)(hL:lsJ lost 0 (blkRows ch c cs)=L)(hQ:lostJ par 0 cnt.toNat=[])(h:K (.one (.bool true)) []):evRest Emen Tryz.f5 25 { t:=([.any,.one (.ptr 0 1 0 0),.any,.any,.any,.one (.int .i64 ((n:Int))),.any,.any,.any,.any,.any,.any,.any,.any,.any,.one (.ptr 1 1 0 0),.one .nil,.one .nil]++List.replicate 337 .any),σ:=[.cells [.data (.ints .i64 x),.int .i64 ch,.int .i64 c,.int .i64 cnt,.int .i64 lost,.int .i64 par],.cells [.own 2 8,.own 3 8,.own 4 1,.nil],.row 22 (.mat .i64 8 D),.row 22 (.mat .i64 8 P),.row 3 (.ints .i64 L)] } K:=by
 rw[exH2 (n:Int) ch c cnt lost par x D P L K]
 have:=H.r (K:=K) h
 rw[hL,hQ,← hD,← hP] at this
 exact this
theorem tH3(H:MenH x ch c cs n cnt lost par){D P:List (List Int)}{L Q:List Int}(hD:D=dtJ lost 0 (blkRows ch c cs) (List.replicate n [0,0,0,0,0,0,0,0]))(hP:P=parM ((blkRows ch c cs).map samX) cnt)(hL:lsJ lost 0 (blkRows ch c cs)=L)(hQ:lostJ par 0 cnt.toNat=Q)(h:K (.one (.bool true)) []):evRest Emen Tryz.f5 25 { t:=([.any,.one (.ptr 0 1 0 0),.any,.any,.any,.one (.int .i64 ((n:Int))),.any,.any,.any,.any,.any,.any,.any,.any,.any,.one (.ptr 1 1 0 0),.one .nil,.one .nil]++List.replicate 337 .any),σ:=[.cells [.data (.ints .i64 x),.int .i64 ch,.int .i64 c,.int .i64 cnt,.int .i64 lost,.int .i64 par],.cells [.own 2 8,.own 3 8,.own 4 1,.own 5 1],.row 22 (.mat .i64 8 D),.row 22 (.mat .i64 8 P),.row 3 (.ints .i64 L),.row 3 (.ints .i64 Q)] } K:=by
 rw[exH3 (n:Int) ch c cnt lost par x D P L Q K]
 have:=H.r (K:=K) h
 rw[hL,hQ,← hD,← hP] at this
 exact this
theorem tH4(H:MenH x ch c cs n cnt lost par){D P T:List (List Int)}{L:List Int}(hD:D=dtJ lost 0 (blkRows ch c cs) (List.replicate n [0,0,0,0,0,0,0,0]))(hP:P=parM ((blkRows ch c cs).map samX) cnt)(hL:lsJ lost 0 (blkRows ch c cs)=L)(hQ:lostJ par 0 cnt.toNat=[])(hT:kpJ lost 0 (blkRows ch c cs)=T)(hT1:1≤T.length)(hM:msJ c T L=[])(h:K (.one (.bool true)) []):evRest Emen Tryz.f5 25 { t:=([.any,.one (.ptr 0 1 0 0),.any,.any,.any,.one (.int .i64 ((n:Int))),.any,.any,.any,.any,.any,.any,.any,.any,.any,.one (.ptr 1 1 0 0),.one (.own 5 11),.one .nil]++List.replicate 337 .any),σ:=[.cells [.data (.ints .i64 x),.int .i64 ch,.int .i64 c,.int .i64 cnt,.int .i64 lost,.int .i64 par],.cells [.own 2 8,.own 3 8,.own 4 1,.nil],.row 22 (.mat .i64 8 D),.row 22 (.mat .i64 8 P),.row 3 (.ints .i64 L),.row 24 (.mat .i64 11 T)] } K:=by
 rw[exH4 (n:Int) ch c cnt lost par x D P T L K]
 have:=H.s (K:=K) (by rw[hT];exact hT1) h
 rw[hL,hQ,hT,hM,← hD,← hP] at this
 exact this
theorem tH5(H:MenH x ch c cs n cnt lost par){D P T:List (List Int)}{L M:List Int}(hD:D=dtJ lost 0 (blkRows ch c cs) (List.replicate n [0,0,0,0,0,0,0,0]))(hP:P=parM ((blkRows ch c cs).map samX) cnt)(hL:lsJ lost 0 (blkRows ch c cs)=L)(hQ:lostJ par 0 cnt.toNat=[])(hT:kpJ lost 0 (blkRows ch c cs)=T)(hT1:1≤T.length)(hM:msJ c T L=M)(h:K (.one (.bool true)) []):evRest Emen Tryz.f5 25 { t:=([.any,.one (.ptr 0 1 0 0),.any,.any,.any,.one (.int .i64 ((n:Int))),.any,.any,.any,.any,.any,.any,.any,.any,.any,.one (.ptr 1 1 0 0),.one (.own 5 11),.one (.own 6 1)]++List.replicate 337 .any),σ:=[.cells [.data (.ints .i64 x),.int .i64 ch,.int .i64 c,.int .i64 cnt,.int .i64 lost,.int .i64 par],.cells [.own 2 8,.own 3 8,.own 4 1,.nil],.row 22 (.mat .i64 8 D),.row 22 (.mat .i64 8 P),.row 3 (.ints .i64 L),.row 24 (.mat .i64 11 T),.row 3 (.ints .i64 M)] } K:=by
 rw[exH5 (n:Int) ch c cnt lost par x D P T L M K]
 have:=H.s (K:=K) (by rw[hT];exact hT1) h
 rw[hL,hQ,hT,hM,← hD,← hP] at this
 exact this
theorem tH6(H:MenH x ch c cs n cnt lost par){D P T:List (List Int)}{L Q:List Int}(hD:D=dtJ lost 0 (blkRows ch c cs) (List.replicate n [0,0,0,0,0,0,0,0]))(hP:P=parM ((blkRows ch c cs).map samX) cnt)(hL:lsJ lost 0 (blkRows ch c cs)=L)(hQ:lostJ par 0 cnt.toNat=Q)(hT:kpJ lost 0 (blkRows ch c cs)=T)(hT1:1≤T.length)(hM:msJ c T L=[])(h:K (.one (.bool true)) []):evRest Emen Tryz.f5 25 { t:=([.any,.one (.ptr 0 1 0 0),.any,.any,.any,.one (.int .i64 ((n:Int))),.any,.any,.any,.any,.any,.any,.any,.any,.any,.one (.ptr 1 1 0 0),.one (.own 6 11),.one .nil]++List.replicate 337 .any),σ:=[.cells [.data (.ints .i64 x),.int .i64 ch,.int .i64 c,.int .i64 cnt,.int .i64 lost,.int .i64 par],.cells [.own 2 8,.own 3 8,.own 4 1,.own 5 1],.row 22 (.mat .i64 8 D),.row 22 (.mat .i64 8 P),.row 3 (.ints .i64 L),.row 3 (.ints .i64 Q),.row 24 (.mat .i64 11 T)] } K:=by
 rw[exH6 (n:Int) ch c cnt lost par x D P T L Q K]
 have:=H.s (K:=K) (by rw[hT];exact hT1) h
 rw[hL,hQ,hT,hM,← hD,← hP] at this
 exact this
theorem tH7(H:MenH x ch c cs n cnt lost par){D P T:List (List Int)}{L Q M:List Int}(hD:D=dtJ lost 0 (blkRows ch c cs) (List.replicate n [0,0,0,0,0,0,0,0]))(hP:P=parM ((blkRows ch c cs).map samX) cnt)(hL:lsJ lost 0 (blkRows ch c cs)=L)(hQ:lostJ par 0 cnt.toNat=Q)(hT:kpJ lost 0 (blkRows ch c cs)=T)(hT1:1≤T.length)(hM:msJ c T L=M)(h:K (.one (.bool true)) []):evRest Emen Tryz.f5 25 { t:=([.any,.one (.ptr 0 1 0 0),.any,.any,.any,.one (.int .i64 ((n:Int))),.any,.any,.any,.any,.any,.any,.any,.any,.any,.one (.ptr 1 1 0 0),.one (.own 6 11),.one (.own 7 1)]++List.replicate 337 .any),σ:=[.cells [.data (.ints .i64 x),.int .i64 ch,.int .i64 c,.int .i64 cnt,.int .i64 lost,.int .i64 par],.cells [.own 2 8,.own 3 8,.own 4 1,.own 5 1],.row 22 (.mat .i64 8 D),.row 22 (.mat .i64 8 P),.row 3 (.ints .i64 L),.row 3 (.ints .i64 Q),.row 24 (.mat .i64 11 T),.row 3 (.ints .i64 M)] } K:=by
 rw[exH7 (n:Int) ch c cnt lost par x D P T L Q M K]
 have:=H.s (K:=K) (by rw[hT];exact hT1) h
 rw[hL,hQ,hT,hM,← hD,← hP] at this
 exact this
theorem tG0(H:MenH x ch c cs n cnt lost par){D P T:List (List Int)}(hD:D=dtJ lost 0 (blkRows ch c cs) (List.replicate n [0,0,0,0,0,0,0,0]))(hP:P=parM ((blkRows ch c cs).map samX) cnt)(hL:lsJ lost 0 (blkRows ch c cs)=[])(hT:kpJ lost 0 (blkRows ch c cs)=T)(hT1:1≤T.length)(h:K (.one (.bool true)) []):evRest Emen Tryz.f5 21 { t:=([.any,.one (.ptr 0 1 0 0),.any,.any,.any,.one (.int .i64 ((n:Int))),.any,.any,.any,.any,.any,.any,.any,.any,.any,.one (.ptr 1 1 0 0),.one (.own 4 11),.one .nil]++List.replicate 337 .any),σ:=[.cells [.data (.ints .i64 x),.int .i64 ch,.int .i64 c,.int .i64 cnt,.int .i64 lost,.int .i64 par],.cells [.own 2 8,.own 3 8,.nil,.nil],.row 22 (.mat .i64 8 D),.row 22 (.mat .i64 8 P),.row 24 (.mat .i64 11 T)] } K:=by
 rw[evRest_stage Emen Tryz.f5 21 4,exmenG0 (n:Int) ch c cnt lost par x D P T K]
 have hc1:=H.c1
 have hc:=H.C.hc
 have hln:=H.C.lo
 have ht:=H.tl
 rw[hT] at ht
 refine And.intro ⟨by decide,by omega,H.c4⟩ ?_
 rw[Int.sub_zero]
 cases hq:(lostJ par 0 cnt.toNat).isEmpty with
 |true=>
  rw[cond_true]
  refine And.intro ⟨by decide,hT1,ht⟩ ?_
  show evRest Emen Tryz.f5 25 _ K
  exact tH0 H hD hP hL (isE hq) hT hT1 rfl h
 |false=>
  rw[cond_false]
  refine And.intro ⟨by decide,hT1,ht⟩ ?_
  show evRest Emen Tryz.f5 25 _ K
  exact tH1 H hD hP hL rfl hT hT1 rfl h
theorem tG1(H:MenH x ch c cs n cnt lost par){D P:List (List Int)}{L:List Int}(hD:D=dtJ lost 0 (blkRows ch c cs) (List.replicate n [0,0,0,0,0,0,0,0]))(hP:P=parM ((blkRows ch c cs).map samX) cnt)(hL:lsJ lost 0 (blkRows ch c cs)=L)(h:K (.one (.bool true)) []):evRest Emen Tryz.f5 21 { t:=([.any,.one (.ptr 0 1 0 0),.any,.any,.any,.one (.int .i64 ((n:Int))),.any,.any,.any,.any,.any,.any,.any,.any,.any,.one (.ptr 1 1 0 0),.one .nil,.one .nil]++List.replicate 337 .any),σ:=[.cells [.data (.ints .i64 x),.int .i64 ch,.int .i64 c,.int .i64 cnt,.int .i64 lost,.int .i64 par],.cells [.own 2 8,.own 3 8,.own 4 1,.nil],.row 22 (.mat .i64 8 D),.row 22 (.mat .i64 8 P),.row 3 (.ints .i64 L)] } K:=by
 rw[evRest_stage Emen Tryz.f5 21 4,exmenG1 (n:Int) ch c cnt lost par x D P L K]
 have hc1:=H.c1
 have hc:=H.C.hc
 have hln:=H.C.lo
 obtain⟨hl1,hl2⟩:=H.ll
 rw[hL] at hl1 hl2
 refine And.intro ⟨by decide,by omega,H.c4⟩ ?_
 rw[Int.sub_zero]
 cases hq:(lostJ par 0 cnt.toNat).isEmpty with
 |true=>
  rw[cond_true]
  refine And.intro ⟨by decide,by omega,hl1,hl2,by omega,by omega⟩ ?_
  show evRest Emen Tryz.f5 25 _ K
  exact tH2 H hD hP hL (isE hq) h
 |false=>
  rw[cond_false]
  refine And.intro ⟨by decide,by omega,hl1,hl2,by omega,by omega⟩ ?_
  show evRest Emen Tryz.f5 25 _ K
  exact tH3 H hD hP hL rfl h
theorem tG2(H:MenH x ch c cs n cnt lost par){D P T:List (List Int)}{L:List Int}(hD:D=dtJ lost 0 (blkRows ch c cs) (List.replicate n [0,0,0,0,0,0,0,0]))(hP:P=parM ((blkRows ch c cs).map samX) cnt)(hL:lsJ lost 0 (blkRows ch c cs)=L)(hT:kpJ lost 0 (blkRows ch c cs)=T)(hT1:1≤T.length)(h:K (.one (.bool true)) []):evRest Emen Tryz.f5 21 { t:=([.any,.one (.ptr 0 1 0 0),.any,.any,.any,.one (.int .i64 ((n:Int))),.any,.any,.any,.any,.any,.any,.any,.any,.any,.one (.ptr 1 1 0 0),.one (.own 5 11),.one .nil]++List.replicate 337 .any),σ:=[.cells [.data (.ints .i64 x),.int .i64 ch,.int .i64 c,.int .i64 cnt,.int .i64 lost,.int .i64 par],.cells [.own 2 8,.own 3 8,.own 4 1,.nil],.row 22 (.mat .i64 8 D),.row 22 (.mat .i64 8 P),.row 3 (.ints .i64 L),.row 24 (.mat .i64 11 T)] } K:=by
 rw[evRest_stage Emen Tryz.f5 21 4,exmenG2 (n:Int) ch c cnt lost par x D P T L K]
 have hc1:=H.c1
 have hc:=H.C.hc
 have hln:=H.C.lo
 obtain⟨hl1,hl2⟩:=H.ll
 rw[hL] at hl1 hl2
 have ht:=H.tl
 rw[hT] at ht
 refine And.intro ⟨by decide,by omega,H.c4⟩ ?_
 rw[Int.sub_zero]
 cases hq:(lostJ par 0 cnt.toNat).isEmpty with
 |true=>
  rw[cond_true]
  refine And.intro ⟨by decide,by omega,hl1,hl2,by omega,by omega,hT1,ht⟩ ?_
  cases hm:(msJ c T L).isEmpty with
  |true=>
   rw[cond_true]
   show evRest Emen Tryz.f5 25 _ K
   exact tH4 H hD hP hL (isE hq) hT hT1 (isE hm) h
  |false=>
   rw[cond_false]
   show evRest Emen Tryz.f5 25 _ K
   exact tH5 H hD hP hL (isE hq) hT hT1 rfl h
 |false=>
  rw[cond_false]
  refine And.intro ⟨by decide,by omega,hl1,hl2,by omega,by omega,hT1,ht⟩ ?_
  cases hm:(msJ c T L).isEmpty with
  |true=>
   rw[cond_true]
   show evRest Emen Tryz.f5 25 _ K
   exact tH6 H hD hP hL rfl hT hT1 (isE hm) h
  |false=>
   rw[cond_false]
   show evRest Emen Tryz.f5 25 _ K
   exact tH7 H hD hP hL rfl hT hT1 rfl h
theorem tE(H:MenH x ch c cs n cnt lost par){S:List (List D)}{P X:List (List Int)}{a0 a4 a7 a14 a29 a30 a31 a32 a33 a34 a35 a36 a37 a38 a39 a40 a41 a42 a43 a44 a45 a46 a47 a48 a49 a50 a51 a52 a53 a54 a55 a56 a57 a58 a59 a60 a61 a62 a63 a64 a65 a66 a67 a68 a69 a70 a71 a72 a73 a74 a75 a76 a77 a78 a79 a80 a81 a82 a83 a84 a85 a86 a87 a88 a148 a149 a150 a151 a152 a153 a154 a155 a156 a157 a158 a159 a160 a161 a162 a163 a164:AV}(hS:S=strsG (blkRows ch c cs))(hP:P=parM ((blkRows ch c cs).map samX) cnt)(hPl:(P.length:Int)=cnt)(h:K (.one (.bool true)) []):evRest Emen Tryz.f5 16 { t:=([a0,AV.one (SV.ptr (0:Nat) (1:Nat) (0:Nat) (0:Nat)),AV.any,AV.one (SV.data (Row.mat IntKind.i64 (11:Nat) (blkRows ch c cs))),a4,AV.one (SV.int IntKind.i64 (n:Int)),AV.one (SV.own (2:Nat) (1:Nat)),a7,AV.any,AV.any,AV.any,AV.any,AV.any,AV.one (SV.data (Row.mat IntKind.i64 (8:Nat) P)),a14,AV.any,AV.any,AV.any,AV.any,AV.any,AV.any,AV.any,AV.any,AV.any,AV.any,AV.any,AV.any,AV.any,AV.any,a29,a30,a31,a32,a33,a34,a35,a36,a37,a38,a39,a40,a41,a42,a43,a44,a45,a46,a47,a48,a49,a50,a51,a52,a53,a54,a55,a56,a57,a58,a59,a60,a61,a62,a63,a64,a65,a66,a67,a68,a69,a70,a71,a72,a73,a74,a75,a76,a77,a78,a79,a80,a81,a82,a83,a84,a85,a86,a87,a88,AV.any,AV.any,AV.any,AV.any,AV.any,AV.any,AV.any,AV.any,AV.any,AV.any,AV.any,AV.any,AV.any,AV.any,AV.any,AV.any,AV.any,AV.any,AV.any,AV.any,AV.any,AV.any,AV.any,AV.any,AV.any,AV.any,AV.any,AV.any,AV.any,AV.any,AV.any,AV.any,AV.any,AV.any,AV.any,AV.any,AV.any,AV.any,AV.any,AV.any,AV.any,AV.any,AV.any,AV.any,AV.any,AV.any,AV.any,AV.any,AV.any,AV.any,AV.any,AV.any,AV.any,AV.any,AV.any,AV.any,AV.any,AV.any,AV.any,a148,a149,a150,a151,a152,a153,a154,a155,a156,a157,a158,a159,a160,a161,a162,a163,a164]++List.replicate 190 .any),σ:=[Blk.cells [SV.data (Row.ints IntKind.i64 x),SV.int IntKind.i64 ch,SV.int IntKind.i64 c,SV.int IntKind.i64 cnt,SV.int IntKind.i64 lost,SV.int IntKind.i64 par],Blk.dead,Blk.row (9:TypeId) (Row.recs [CK.str] S),Blk.row (22:TypeId) (Row.mat IntKind.i64 (8:Nat) X),Blk.dead] } K:=by
 rw[evRest_stage Emen Tryz.f5 16 5,exmenE]
 have hlen:(blkRows ch c cs).length=n:=by rw[rows_len,H.C.len]
 have hT:=H.C.okT H.h12
 have h12:=H.h12
 have hc4:=H.c4
 have hx0: ∀B:St→Prop,B=(fun s'=>evRest Emen Tryz.f5 (16+5) s' K)→exmenE_x0 x (blkRows ch c cs) n ch c cnt lost par S P X a0 a4 a7 a14 a29 a30 a31 a32 a33 a34 a35 a36 a37 a38 a39 a40 a41 a42 a43 a44 a45 a46 a47 a48 a49 a50 a51 a52 a53 a54 a55 a56 a57 a58 a59 a60 a61 a62 a63 a64 a65 a66 a67 a68 a69 a70 a71 a72 a73 a74 a75 a76 a77 a78 a79 a80 a81 a82 a83 a84 a85 a86 a87 a88 a148 a149 a150 a151 a152 a153 a154 a155 a156 a157 a158 a159 a160 a161 a162 a163 a164 K B:=by
  intro B hB
  unfold exmenE_x0
  rw[show((n:Int)).toNat=n by omega]
  refine And.intro ⟨hT,by decide,by omega,hS,by rw[List.length_replicate,hlen],H.l0,H.l1,rfl⟩ ?_
  cases ht:(kpJ lost 0 (blkRows ch c cs)).isEmpty with
  |true=>
   rw[cond_true,hB]
   show evRest Emen Tryz.f5 21 _ K
   exact tG1 H rfl hP rfl h
  |false=>
   rw[cond_false]
   cases hl:(lsJ lost 0 (blkRows ch c cs)).isEmpty with
   |true=>
    rw[cond_true,hB]
    show evRest Emen Tryz.f5 21 _ K
    exact tG0 H rfl hP (isE hl) rfl (notE ht) h
   |false=>
    rw[cond_false,hB]
    show evRest Emen Tryz.f5 21 _ K
    exact tG2 H rfl hP rfl rfl (notE ht) h
 have x0:=hx0 _ rfl
 have hcd:(decide ((0:Int)≤(n:Int))&&(decide ((n:Int)≤(n:Int))&&decide ((n:Int)*64≤140737488355328∧(n:Int)≤140737488355328)))=true:=by
  rw[decide_eq_true (show(0:Int)≤(n:Int) by omega),decide_eq_true (show(n:Int)≤(n:Int) by omega),decide_eq_true (show(n:Int)*64≤140737488355328∧(n:Int)≤140737488355328 by omega)];rfl
 have hp:P.length≤1000000:=by omega
 have x1:exmenE_x1 x (blkRows ch c cs) n ch c cnt lost par S P X a0 a4 a7 a14 a29 a30 a31 a32 a33 a34 a35 a36 a37 a38 a39 a40 a41 a42 a43 a44 a45 a46 a47 a48 a49 a50 a51 a52 a53 a54 a55 a56 a57 a58 a59 a60 a61 a62 a63 a64 a65 a66 a67 a68 a69 a70 a71 a72 a73 a74 a75 a76 a77 a78 a79 a80 a81 a82 a83 a84 a85 a86 a87 a88 a148 a149 a150 a151 a152 a153 a154 a155 a156 a157 a158 a159 a160 a161 a162 a163 a164 K (fun s'=>evRest Emen Tryz.f5 (16+5) s' K):=And.intro hp x0
 have x2:exmenE_x2 x (blkRows ch c cs) n ch c cnt lost par S P X a0 a4 a7 a14 a29 a30 a31 a32 a33 a34 a35 a36 a37 a38 a39 a40 a41 a42 a43 a44 a45 a46 a47 a48 a49 a50 a51 a52 a53 a54 a55 a56 a57 a58 a59 a60 a61 a62 a63 a64 a65 a66 a67 a68 a69 a70 a71 a72 a73 a74 a75 a76 a77 a78 a79 a80 a81 a82 a83 a84 a85 a86 a87 a88 a148 a149 a150 a151 a152 a153 a154 a155 a156 a157 a158 a159 a160 a161 a162 a163 a164 K (fun s'=>evRest Emen Tryz.f5 (16+5) s' K):=by
  unfold exmenE_x2
  rw[hcd];exact x0
 rw[hcd]
 exact⟨⟨x1,x1⟩,⟨hp,x2,x2⟩,x1,hp,x2⟩
theorem tD(H:MenH x ch c cs n cnt lost par){S:List (List D)}{P X:List (List Int)}{e:Int}{a0 a4 a7 a29 a30 a31 a32 a33 a34 a35 a36 a37 a38 a39 a40 a41 a42 a43 a44 a45 a46 a47 a48 a49 a50 a51 a52 a53 a54 a55 a56 a57 a58 a59 a60 a61 a62 a63 a64 a65 a66 a67 a68 a69 a70 a71 a72 a73 a74 a75 a76 a77 a78 a79 a80 a81 a82 a83 a84 a85 a86 a87 a88 a148 a149 a150 a151 a152 a153 a154 a155:AV}(hS:S=strsG (blkRows ch c cs))(hP:P=parM ((blkRows ch c cs).map samX) cnt)(hPl:(P.length:Int)=cnt)(he:e=0)(h:K (.one (.bool true)) []):evRest Emen Tryz.f5 14 { t:=([a0,AV.one (SV.ptr (0:Nat) (1:Nat) (0:Nat) (0:Nat)),AV.any,AV.one (SV.data (Row.mat IntKind.i64 (11:Nat) (blkRows ch c cs))),a4,AV.one (SV.int IntKind.i64 (n:Int)),AV.one (SV.own (2:Nat) (1:Nat)),a7,AV.any,AV.any,AV.any,AV.any,AV.any,AV.one (SV.data (Row.mat IntKind.i64 (8:Nat) P)),AV.one (SV.int IntKind.i64 e),AV.any,AV.any,AV.any,AV.any,AV.any,AV.any,AV.any,AV.any,AV.any,AV.any,AV.any,AV.any,AV.any,AV.any,a29,a30,a31,a32,a33,a34,a35,a36,a37,a38,a39,a40,a41,a42,a43,a44,a45,a46,a47,a48,a49,a50,a51,a52,a53,a54,a55,a56,a57,a58,a59,a60,a61,a62,a63,a64,a65,a66,a67,a68,a69,a70,a71,a72,a73,a74,a75,a76,a77,a78,a79,a80,a81,a82,a83,a84,a85,a86,a87,a88,AV.any,AV.any,AV.any,AV.any,AV.any,AV.any,AV.any,AV.any,AV.any,AV.any,AV.any,AV.any,AV.any,AV.any,AV.any,AV.any,AV.any,AV.any,AV.any,AV.any,AV.any,AV.any,AV.any,AV.any,AV.any,AV.any,AV.any,AV.any,AV.any,AV.any,AV.any,AV.any,AV.any,AV.any,AV.any,AV.any,AV.any,AV.any,AV.any,AV.any,AV.any,AV.any,AV.any,AV.any,AV.any,AV.any,AV.any,AV.any,AV.any,AV.any,AV.any,AV.any,AV.any,AV.any,AV.any,AV.any,AV.any,AV.any,AV.any,a148,a149,a150,a151,a152,a153,a154,a155]++List.replicate 199 .any),σ:=[Blk.cells [SV.data (Row.ints IntKind.i64 x),SV.int IntKind.i64 ch,SV.int IntKind.i64 c,SV.int IntKind.i64 cnt,SV.int IntKind.i64 lost,SV.int IntKind.i64 par],Blk.dead,Blk.row (9:TypeId) (Row.recs [CK.str] S),Blk.row (22:TypeId) (Row.mat IntKind.i64 (8:Nat) X),Blk.dead] } K:=by
 rw[evRest_stage Emen Tryz.f5 14 2,exmenD,he,bne_self_eq_false,cond_false,hPl,bne_self_eq_false,cond_false]
 show evRest Emen Tryz.f5 16 _ K
 exact tE H hS hP hPl h
theorem tC(H:MenH x ch c cs n cnt lost par){S:List (List D)}{X:List (List Int)}{a0 a4 a29 a30 a31 a32 a33 a34 a35 a36 a37 a38 a39 a40 a41 a42 a43 a44 a45 a46 a47 a48 a49 a50 a51 a52 a53 a54 a55 a56 a57 a58 a59 a60 a61 a62 a63 a64 a65 a66 a67 a68 a69 a70 a71 a72 a73 a74 a75 a76 a77 a78 a79 a80 a81 a82 a83 a84 a85 a86 a87 a88:AV}(hS:S=strsG (blkRows ch c cs))(hX:X=(blkRows ch c cs).map samX)(h:K (.one (.bool true)) []):evRest Emen Tryz.f5 13 { t:=([a0,AV.one (SV.ptr (0:Nat) (1:Nat) (0:Nat) (0:Nat)),AV.any,AV.one (SV.data (Row.mat IntKind.i64 (11:Nat) (blkRows ch c cs))),a4,AV.one (SV.int IntKind.i64 (n:Int)),AV.one (SV.own 2 (1:Nat)),AV.one (SV.own 3 (8:Nat)),AV.any,AV.any,AV.any,AV.any,AV.any,AV.any,AV.any,AV.any,AV.any,AV.any,AV.any,AV.any,AV.any,AV.any,AV.any,AV.any,AV.any,AV.any,AV.any,AV.any,AV.any,a29,a30,a31,a32,a33,a34,a35,a36,a37,a38,a39,a40,a41,a42,a43,a44,a45,a46,a47,a48,a49,a50,a51,a52,a53,a54,a55,a56,a57,a58,a59,a60,a61,a62,a63,a64,a65,a66,a67,a68,a69,a70,a71,a72,a73,a74,a75,a76,a77,a78,a79,a80,a81,a82,a83,a84,a85,a86,a87,a88]++List.replicate 266 .any),σ:=[Blk.cells [SV.data (Row.ints IntKind.i64 x),SV.int IntKind.i64 ch,SV.int IntKind.i64 c,SV.int IntKind.i64 cnt,SV.int IntKind.i64 lost,SV.int IntKind.i64 par],Blk.dead,Blk.row (9:TypeId) (Row.recs [CK.str] S),Blk.row (22:TypeId) (Row.mat IntKind.i64 (8:Nat) X)] } K:=by
 have hc1:=H.c1
 have hc4:=H.c4
 have h12:=H.h12
 have hd:=H.C.dataE H.h12 hc1 hc4
 have hl:((blkRows ch c cs).map samX).length=n:=by rw[List.length_map,rows_len,H.C.len]
 have hpv:parV ((blkRows ch c cs).map samX) cnt=parM ((blkRows ch c cs).map samX) cnt:=by unfold parV;rw[hd];rfl
 have hpl:((parM ((blkRows ch c cs).map samX) cnt).length:Int)=cnt:=by
  have:(parM ((blkRows ch c cs).map samX) cnt).length=cnt.toNat:=rowsF_length _ cnt.toNat 0
  rw[this];omega
 rw[evRest_stage Emen Tryz.f5 13 1,exmenC]
 refine And.intro (by rw[hX,hl];omega) (And.intro ⟨by rw[hX,hl];omega,by rw[hX];exact H.C.sam8⟩ ?_)
 show evRest Emen Tryz.f5 14 _ K
 rw[hX,hpv]
 exact tD H hS rfl hpl hd h
theorem tB(H:MenH x ch c cs n cnt lost par){a0 a4 a29 a30 a31 a32 a33 a34 a35 a36 a37 a38 a39 a40 a41 a42 a43 a44 a45 a46 a47 a48 a49 a50 a51 a52 a53 a54 a55 a56 a57 a58 a59 a60 a61 a62 a63 a64 a65 a66 a67 a68 a69 a70 a71 a72 a73 a74 a75 a76 a77 a78 a79 a80 a81 a82 a83 a84 a85 a86 a87 a88:AV}(h:K (.one (.bool true)) []):evRest Emen Tryz.f5 12 { t:=([a0,AV.one (SV.ptr 0 (1:Nat) (0:Nat) (0:Nat)),AV.one (SV.bool false),AV.one (SV.data (Row.mat IntKind.i64 (11:Nat) (blkRows ch c cs))),a4,AV.one (SV.int IntKind.i64 (n:Int)),AV.one SV.nil,AV.one SV.nil,AV.one (SV.int IntKind.i64 (0:Int)),AV.any,AV.any,AV.any,AV.any,AV.any,AV.any,AV.any,AV.any,AV.any,AV.any,AV.any,AV.any,AV.any,AV.any,AV.any,AV.any,AV.any,AV.any,AV.any,AV.any,a29,a30,a31,a32,a33,a34,a35,a36,a37,a38,a39,a40,a41,a42,a43,a44,a45,a46,a47,a48,a49,a50,a51,a52,a53,a54,a55,a56,a57,a58,a59,a60,a61,a62,a63,a64,a65,a66,a67,a68,a69,a70,a71,a72,a73,a74,a75,a76,a77,a78,a79,a80,a81,a82,a83,a84,a85,a86,a87,a88]++List.replicate 266 .any),σ:=[Blk.cells [SV.data (Row.ints IntKind.i64 x),SV.int IntKind.i64 ch,SV.int IntKind.i64 c,SV.int IntKind.i64 cnt,SV.int IntKind.i64 lost,SV.int IntKind.i64 par],Blk.dead] } K:=by
 rw[evRest_stage Emen Tryz.f5 12 1,exmenB]
 refine And.intro ⟨H.C.okT H.h12,rfl⟩ ?_
 show evRest Emen Tryz.f5 13 _ K
 exact tC H rfl rfl h
end
theorem okmen:SpecOK Tryz.prog 5 menS:=by
 refine specOKd (n:=355) (m:=0) (lps:=[(12,.frm 0 [3,5,6,7,8] [2,6,7] tmA),(27,.spec [1,3,5,6,15,16,17,18] [1,2,5,15,16,17] tmB),(37,.spec [1,5,15,16,17,21] [1,5,15,16,17] tmC),(42,.spec [1,5,15,16,17,22] [1,5,15,16,17] tmD),(57,.frm 1 [1,26,28] [2] tmE)]) [20,25,27,30] (.cons oktaw (.cons ok36 (.cons ok25 (.cons ok35 (.cons okboD (.cons ok28V (.cons ok47V (.cons ok21 (.cons okfmb (.cons ok41 (.cons okparD (.cons okpab (.cons okcpb (.cons okmisD (.cons ok30 (.cons okcgr (.cons okrdD .nil))))))))))))))))) Tryz.func5 (by kernel_rfl) (by kernel_rfl) (theLoops (n:=5) (by kernel_rfl) fun i hi=> ?_) fun args σ K h=> ?_
 ·match i,hi with
  |0,_=>exact loopHyp_frm (E':=EmenF0) (key:=12) (m:=0) (by kernel_rfl) rfl rfl lokmen_0
  |1,_=>exact loopHyp_of (key:=27) (by kernel_rfl) rfl lokmen_1
  |2,_=>exact loopHyp_of (key:=37) (by kernel_rfl) rfl lokmen_2
  |3,_=>exact loopHyp_of (key:=42) (by kernel_rfl) rfl lokmen_3
  |4,_=>exact loopHyp_frm (E':=EmenF1) (key:=57) (m:=1) (by kernel_rfl) rfl rfl lokmen_4
 unfold menS at h
 split at h
 rotate_right
 ·exact h.elim
 rename_i x ch c cnt lost par
 rw[evFn_rest (by kernel_rfl) (by kernel_rfl),evRest_stage Emen Tryz.f5 0 12,exmenA]
 by_cases h0:(x.length:Int)=0
 ·rw[h0];exact h
 rw[show((x.length:Int)==0)=false from beq_eq_false_iff_ne.2 h0,cond_false]
 by_cases h96:(x.length:Int)>96
 ·rw[decide_eq_true h96];exact h
 rw[decide_eq_false h96,cond_false]
 refine And.intro (by omega) ?_
 cases hce:(cutE x ch c != 0) with
 |true=>exact h
 |false=>
  have hcut:cutE x ch c=0:=by simpa using hce
  rw[cond_false]
  cases hcn:(decide (1≤cnt)&&decide (cnt≤4)) with
  |false=>exact h
  |true=>
   rw[Bool.not_true,cond_false]
   cases hlo:(decide (0≤lost)&&decide (lost≤4095)) with
   |false=>exact h
   |true=>
    rw[Bool.not_true,cond_false]
    cases hpa:(decide (0≤par)&&decide (par≤15)) with
    |false=>exact h
    |true=>
     rw[Bool.not_true,cond_false,cond_false]
     refine And.intro (by omega) (And.intro (by omega) ?_)
     simp only[Bool.and_eq_true,decide_eq_true_eq] at hcn hlo hpa
     have C:=cut_of hcut (by omega) (by omega)
     have hbr:boRows x ch c=blkRows ch c (chunkC x (countN x)):=by unfold boRows cutRows;rw[hcut];rfl
     have hn12:countN x≤12:=by unfold countN;omega
     have H:MenH x ch c (chunkC x (countN x)) (countN x) cnt lost par:=⟨C,hn12,by omega,hcn.1,hcn.2,hlo.1,hlo.2⟩
     have w1:IntKind.i64.wrap ((x.length:Int)+7)=(x.length:Int)+7:=wrap_id (by omega) (by omega)
     have e1:((x.length:Int)+7).tdiv 8=(countN x:Int):=by
      rw[Int.tdiv_eq_ediv_of_nonneg (by omega)]
      unfold countN;omega
     have w2:IntKind.i64.wrap (countN x:Int)=(countN x:Int):=wrap_id (by omega) (by omega)
     have hl:(blkRows ch c (chunkC x (countN x))).length=countN x:=by rw[rows_len,C.len]
     rw[w1,e1,w2,hbr,hl,bne_self_eq_false,cond_false]
     show evRest Emen Tryz.f5 12 _ K
     exact tB H h
end Go.Ev
namespace Go.Ev
open Go Go.RowKit Go.ChangeShapes Go.WideShapes
variable [Glob]
inductive PD where
 |cell (c:CK)
 |rows (cks:List CK)
def PD.ck:PD→Option CK
 |.cell c=>some c
 |.rows [.int k]=>some (.sints k)
 |_=>none
def fieldsT(P:Program)(g:TypeId→Option (List PD)):Nat→List (Nat × TypeId)→Option (List PD)
 |_,[]=>some []
 |off,(o,t)::fs=>if o=off then(match g t with
  |some l=>if P.cellsOf t=l.length then(fieldsT P g (off+l.length) fs).map (l ++ ·) else none
  |none=>none) else none
def pdT(P:Program):Nat→TypeId→Option (List PD)
 |0,_=>none
 |f+1,t=>match P.underlying t with
  |some (.int k)=>some [.cell (.int k)]
  |some .bool=>some [.cell .bool]
  |some .string=>some [.cell .str]
  |some (.slice e)=>match pdT P f e with
   |some l=>match mapOpt PD.ck l with
    |some cks=>if P.cellsOf e=cks.length∧0<cks.length then some [.rows cks] else none
    |none=>none
   |none=>none
  |some (.struct fs)=>match fieldsT P (pdT P f) 0 (fs.toList.map fun x=>(x.offset,x.type)) with
   |some l=>if P.cellsOf t=l.length then some l else none
   |none=>none
  |some (.array n e)=>if n≤100 then(match fieldsT P (pdT P f) 0 ((List.range n).map fun i=>(i*P.cellsOf e,e)) with
   |some l=>if P.cellsOf t=l.length then some l else none
   |none=>none) else none
  |_=>none
def okD:CK→D→Prop
 |.int k,.int n=>(Lit.int k n).wf=true
 |.bool,.bool _=>True
 |.str,.str s=>s.length≤maxLen
 |.sints k,.ints xs=>xs.length≤maxLen∧ ∀x ∈ xs,(Lit.int k x).wf=true
 |_,_=>False
def okInts(k:IntKind)(xs:List Int):Prop:=xs.length≤maxLen∧ ∀x ∈ xs,(Lit.int k x).wf=true
def okMat(k:IntKind)(w:Nat)(xss:List (List Int)):Prop:=xss.length≤maxLen∧ ∀xs ∈ xss,xs.length=w∧ ∀x ∈ xs,(Lit.int k x).wf=true
def okRecs(cks:List CK)(xss:List (List D)):Prop:=xss.length≤maxLen∧ ∀xs ∈ xss,All2 okD cks xs
def intsCk:List CK→Option (IntKind × Nat)
 |.int k::l=>if l.all (· == .int k) then some (k,l.length) else none
 |_=>none
def OpenR(cks:List CK)(P:SV→Prop):Prop:=
 match intsCk cks with
 |some (k,0)=> ∃xs:List Int,okInts k xs∧P (.data (.ints k xs))
 |some (k,w+1)=> ∃xss:List (List Int),okMat k (w+2) xss∧P (.data (.mat k (w+2) xss))
 |none=> ∃xss:List (List D),okRecs cks xss∧P (.data (.recs cks xss))
def Open1:PD→(SV→Prop)→Prop
 |.cell (.int k),P=> ∃n:Int,(Lit.int k n).wf=true∧P (.int k n)
 |.cell .bool,P=> ∃b:Bool,P (.bool b)
 |.cell .str,P=> ∃s:List UInt8,s.length≤maxLen∧P (.str s)
 |.cell (.sints k),P=> ∃xs:List Int,okInts k xs∧P (.data (.ints k xs))
 |.cell (.smat _ _),_=>False
 |.rows cks,P=>OpenR cks P
def Opens:List PD→(List SV→Prop)→Prop
 |[],P=>P []
 |d::l,P=>Open1 d fun s=>Opens l fun r=>P (s::r)
theorem OpenR.mono{cks:List CK}{P Q:SV→Prop}(H: ∀s,P s→Q s)(h:OpenR cks P):OpenR cks Q:=by
 unfold OpenR at h ⊢
 cases hc:intsCk cks with
 |none=>rw[hc] at h;obtain⟨n,h1,h2⟩:=h;exact⟨n,h1,H _ h2⟩
 |some p=>
  obtain⟨k,w⟩:=p
  rw[hc] at h
  cases w with
  |zero=>obtain⟨n,h1,h2⟩:=h;exact⟨n,h1,H _ h2⟩
  |succ w=>obtain⟨n,h1,h2⟩:=h;exact⟨n,h1,H _ h2⟩
theorem OpenR.const{cks:List CK}{X:Prop}(h:OpenR cks fun _=>X):X:=by
 unfold OpenR at h
 cases hc:intsCk cks with
 |none=>rw[hc] at h;obtain⟨n,h1,h2⟩:=h;exact h2
 |some p=>
  obtain⟨k,w⟩:=p
  rw[hc] at h
  cases w with
  |zero=>obtain⟨n,h1,h2⟩:=h;exact h2
  |succ w=>obtain⟨n,h1,h2⟩:=h;exact h2
theorem Open1.const{X:Prop}: ∀{d:PD},(Open1 d fun _=>X)→X
 |.cell (.int _),⟨_,_,h⟩=>h
 |.cell .bool,⟨_,h⟩=>h
 |.cell .str,⟨_,_,h⟩=>h
 |.cell (.sints _),⟨_,_,h⟩=>h
 |.cell (.smat _ _),h=>h.elim
 |.rows _,h=>OpenR.const h
theorem Open1.mono{P Q:SV→Prop}(H: ∀s,P s→Q s): ∀{d:PD},Open1 d P→Open1 d Q
 |.cell (.int _),⟨n,h1,h2⟩=>⟨n,h1,H _ h2⟩
 |.cell .bool,⟨n,h2⟩=>⟨n,H _ h2⟩
 |.cell .str,⟨n,h1,h2⟩=>⟨n,h1,H _ h2⟩
 |.cell (.sints _),⟨n,h1,h2⟩=>⟨n,h1,H _ h2⟩
 |.cell (.smat _ _),h=>h.elim
 |.rows _,h=>OpenR.mono H h
theorem Opens.const{X:Prop}: ∀{l:List PD},(Opens l fun _=>X)→X
 |[],h=>h
 |_::_,h=>Open1.const (Open1.mono (fun _ h=>Opens.const h) h)
theorem Opens.mono: ∀{l:List PD} {P Q:List SV→Prop},(∀r,P r→Q r)→Opens l P→Opens l Q
 |[],_,_,H,h=>H _ h
 |_::_,_,_,H,h=>Open1.mono (fun _ h=>Opens.mono (fun _ hr=>H _ hr) h) h
theorem Opens.append: ∀{l l':List PD} {P:List SV→Prop},Opens l (fun r=>Opens l' fun r'=>P (r++r'))→Opens (l++l') P
 |[],_,_,h=>h
 |_::_,_,_,h=>Open1.mono (fun _ h=>Opens.append h) h
section
variable {H:Type} {enc:TypeId × Value→H} {P:Program} {w:World} {base:Nat} {held:Bool} {m:Nat→Prop}
theorem ck_of{d:PD}{c:CK}{u:Value}(hc:d.ck=some c)(h:Open1 d fun s=>DenS w m [] s u): ∃x,DenC w m c x u∧okD c x:=by
 cases d with
 |cell c'=>
  cases hc
  cases c with
  |int k=>obtain⟨n,h1,h2⟩:=h;exact⟨.int n,h2,h1⟩
  |bool=>obtain⟨n,h2⟩:=h;exact⟨.bool n,h2,trivial⟩
  |str=>obtain⟨n,h1,h2⟩:=h;exact⟨.str n,h2,h1⟩
  |sints k=>
   obtain⟨xs,h1,a,cap,e,h3,h4,h5⟩:=h
   refine⟨.ints xs,⟨a,cap,e,h3,h4,?_⟩,h1⟩
   rcases h5 with h5|⟨ad,e2,h6,h7,h8⟩
   ·exact .inl (List.eq_nil_of_length_eq_zero h5)
   ·exact .inr ⟨ad,e2,h6,h7,h8⟩
  |smat k w=>exact h.elim
 |rows cks=>
  have hk: ∃k,cks=[.int k]∧c= .sints k:=by
   unfold PD.ck at hc
   split at hc
   ·rename_i he;cases he
   ·rename_i k he;cases he;cases hc;exact⟨k,rfl,rfl⟩
   ·cases hc
  obtain⟨k,rfl,rfl⟩:=hk
  obtain⟨xs,h1,a,cap,e,h3,h4,h5⟩: ∃xs:List Int,okInts k xs∧DenS w m [] (.data (.ints k xs)) u:=h
  refine⟨.ints xs,⟨a,cap,e,h3,h4,?_⟩,h1⟩
  rcases h5 with h5|⟨ad,e2,h6,h7,h8⟩
  ·exact .inl (List.eq_nil_of_length_eq_zero h5)
  ·exact .inr ⟨ad,e2,h6,h7,h8⟩
theorem cks_of: ∀{l:List PD} {cks:List CK} {cs:List Value},mapOpt PD.ck l=some cks→Opens l (fun r=>All2 (DenS w m []) r cs)→
  ∃ds:List D,All2 okD cks ds∧cs.length=cks.length∧ ∀(j:Nat) (c:CK),cks[j]? = some c→ ∃u,cs[j]? = some u∧DenC w m c (ds.getD j (.int 0)) u
 |[],cks,cs,h,ho=>by
  simp only[mapOpt,Option.some.injEq] at h
  subst h
  cases cs with
  |nil=>exact⟨[],trivial,rfl,fun j c hj=>by simp at hj⟩
  |cons _ _=>exact ho.elim
 |d::l,cks,cs,h,ho=>by
  unfold mapOpt at h
  cases hd:d.ck with
  |none=>rw[hd] at h;cases hm:mapOpt PD.ck l<;>rw[hm] at h<;>cases h
  |some c=>
   rw[hd] at h
   cases hm:mapOpt PD.ck l with
   |none=>rw[hm] at h;cases h
   |some cks'=>
    rw[hm] at h
    cases h
    cases cs with
    |nil=>exact(Opens.const (l:=d::l) ho).elim
    |cons u cs=>
     have h1:Open1 d fun s=>DenS w m [] s u:=Open1.mono (fun s hs=>Opens.const (Opens.mono (fun _ hr=>hr.1) hs)) ho
     have h2:Opens l fun r=>All2 (DenS w m []) r cs:=Open1.const (d:=d) (Open1.mono (fun s hs=>hs.mono fun r hr=>hr.2) ho)
     obtain⟨x,hx1,hx2⟩:=ck_of hd h1
     obtain⟨ds,h4,h5,h6⟩:=cks_of hm h2
     refine⟨x::ds,⟨hx2,h4⟩,by simp[h5],fun j c' hj=> ?_⟩
     cases j with
     |zero=>simp at hj;subst hj;exact⟨u,rfl,hx1⟩
     |succ j=>simp at hj;obtain⟨u',h7,h8⟩:=h6 j c' hj;exact⟨u',by simpa using h7,by simpa using h8⟩
theorem All2_okD_length{cks:List CK}{ds:List D}(h:All2 okD cks ds):ds.length=cks.length:=h.length.symm
theorem okD_ints{k:IntKind}: ∀{l:List CK} {ds:List D},l.all (· == .int k)=true→All2 okD l ds→(∀x ∈ ds.map D.toInt,(Lit.int k x).wf=true)
 |[],[],_,_,x,hx=>by simp at hx
 |[],_::_,_,h,_,_=>h.elim
 |_::_,[],_,h,_,_=>h.elim
 |c::l,d::ds,ha,h,x,hx=>by
  simp only[List.all_cons,Bool.and_eq_true,beq_iff_eq] at ha
  obtain⟨rfl,ha⟩:=ha
  simp only[List.map_cons,List.mem_cons] at hx
  rcases hx with rfl|hx
  ·have:=h.1
   cases d<;>simp only[okD] at this
   exact this
  ·exact okD_ints ha h.2 x hx
theorem rows_of{cks:List CK}{u:Value}{n cap:Nat}{a:Option Addr}(hu:u= .slice a n cap)(h1:n≤cap)(h2:cap≤maxLen)(hw:0<cks.length)
  (h:n=0∨ ∃ad,a=some ad∧ad.block<w.heap.size∧¬m ad.block∧ ∀i,i<n→ ∃ds:List D,All2 okD cks ds∧ ∀(c:Nat) (ck:CK),cks[c]? = some ck→ ∃v,w.cell? (ad.add (i*cks.length+c))=some v∧DenC w m ck (ds.getD c (.int 0)) v):
  OpenR cks fun s=>DenS w m [] s u:=by
 obtain⟨xss,hlen,hok,hcells⟩: ∃xss:List (List D),xss.length=n∧(∀xs ∈ xss,All2 okD cks xs)∧(n=0∨ ∃ad,a=some ad∧ad.block<w.heap.size∧¬m ad.block∧
   RowCells w m (fun j=>w.cell? (ad.add j)) (.recs cks xss)):=by
  rcases h with h|⟨ad,ha,hb,hm,h⟩
  ·exact⟨[],h.symm,fun xs hx=>by simp at hx,.inl h⟩
  ·obtain⟨xss,hl,hx⟩:=exists_list n h
   refine⟨xss,hl,fun xs hxs=> ?_,.inr ⟨ad,ha,hb,hm,fun i xs hi c ck hc=> ?_⟩⟩
   ·obtain⟨i,hi⟩:=List.getElem?_of_mem hxs
    exact(hx i xs hi).1
   ·exact(hx i xs hi).2 c ck hc
 have hn:n≤maxLen:=by omega
 unfold OpenR
 split
 ·rename_i k hk
  have hc:cks=[.int k]:=by
   unfold intsCk at hk
   split at hk
   ·rename_i k' l
    split at hk
    ·simp only[Option.some.injEq,Prod.mk.injEq] at hk
     obtain⟨rfl,h0⟩:=hk
     rw[List.eq_nil_of_length_eq_zero h0]
    ·cases hk
   ·cases hk
  subst hc
  refine⟨xss.map fun xs=>(xs.getD 0 (.int 0)).toInt,⟨by simp;omega,fun x hx=> ?_⟩,a,cap,by rw[hu];simp[Row.count,hlen],by simp[Row.count,hlen];exact h1,h2,?_⟩
  ·simp only[List.mem_map] at hx
   obtain⟨xs,hxs,rfl⟩:=hx
   have:=hok xs hxs
   match xs,this with
   |[d],this=>
    have h3:=this.1
    cases d<;>simp only[okD] at h3
    exact h3
  ·rcases hcells with h0|⟨ad,ha,hb,hm,hc⟩
   ·exact .inl (by simp[Row.count,hlen,h0])
   ·refine .inr ⟨ad,ha,hb,hm,fun i x hx=> ?_⟩
    rw[List.getElem?_map] at hx
    cases hxs:xss[i]? with
    |none=>rw[hxs] at hx;simp at hx
    |some xs=>
     rw[hxs] at hx
     simp only[Option.map_some,Option.some.injEq] at hx
     subst hx
     obtain⟨v,hv,hd⟩:=hc i xs hxs 0 (.int k) rfl
     have e:v= .int k _:=hd
     rw[e] at hv
     simpa using hv
 ·rename_i k wd hk
  have hc:cks.all (· == .int k)=true∧cks.length=wd+2:=by
   unfold intsCk at hk
   split at hk
   ·rename_i k' l
    split at hk
    ·rename_i hall
     simp only[Option.some.injEq,Prod.mk.injEq] at hk
     obtain⟨rfl,h0⟩:=hk
     simp only[List.all_cons,beq_self_eq_true,Bool.true_and,List.length_cons]
     exact⟨hall,by omega⟩
    ·cases hk
   ·cases hk
  refine⟨xss.map fun xs=>xs.map D.toInt,⟨by simp;omega,fun x hx=> ?_⟩,a,cap,by rw[hu];simp[Row.count,hlen],by simp[Row.count,hlen];exact h1,h2,?_⟩
  ·simp only[List.mem_map] at hx
   obtain⟨xs,hxs,rfl⟩:=hx
   exact⟨by simp[All2_okD_length (hok xs hxs),hc.2],okD_ints hc.1 (hok xs hxs)⟩
  ·rcases hcells with h0|⟨ad,ha,hb,hm,hcl⟩
   ·exact .inl (by simp[Row.count,hlen,h0])
   ·refine .inr ⟨ad,ha,hb,hm,fun i x hx c hcw=> ?_⟩
    rw[List.getElem?_map] at hx
    cases hxs:xss[i]? with
    |none=>rw[hxs] at hx;simp at hx
    |some xs=>
     rw[hxs] at hx
     simp only[Option.map_some,Option.some.injEq] at hx
     subst hx
     have hcl':c<cks.length:=by omega
     have hck:cks[c]? = some (.int k):=by
      rw[List.getElem?_eq_getElem hcl']
      have:=List.all_eq_true.1 hc.1 _ (List.getElem_mem hcl')
      rw[beq_iff_eq] at this
      rw[this]
     obtain⟨v,hv,hd⟩:=hcl i xs hxs c (.int k) hck
     have e:v= .int k (xs.getD c (.int 0)).toInt:=hd
     have hxl:c<xs.length:=by rw[All2_okD_length (hok xs (List.mem_of_getElem? hxs))];exact hcl'
     rw[e,hc.2] at hv
     rw[hv]
     congr 2
     simp[List.getD,List.getElem?_eq_getElem hxl]
 ·refine⟨xss,⟨by omega,hok⟩,a,cap,by rw[hu];simp[Row.count,hlen],by simp[Row.count,hlen];exact h1,h2,?_⟩
  rcases hcells with h0|⟨ad,ha,hb,hm,hc⟩
  ·exact .inl (by simp[Row.count,hlen,h0])
  ·exact .inr ⟨ad,ha,hb,hm,hc⟩
end
end Go.Ev
