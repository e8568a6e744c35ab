/-
  Part of the proof that TopTransferMended holds.
-/
import Derived.Test.YtmailpnpjcpodaaGreatDoorT15
import Derived.Test.YtmailpnpjcpodaaGreatDoorT38
import Derived.Test.YtmailpnpjcpodaaGreatDoorT39
import Derived.Handed
import Derived.MakeChecks
import Derived.FnData
import Derived.Stop.LaidErr
import Derived.SevenTiedAt
import Derived.Test.YtmailpnpjcpodaaGreatDoorTie
import Derived.Test.YtmailpnpjcpodaaGreatDoorCards
set_option linter.unusedVariables false
set_option linter.unusedSimpArgs false
set_option linter.unusedSectionVars false
namespace Go.Ev
open Go Go.Proofs
attribute [local irreducible] evFn evBody evRound
attribute [local irreducible] evStage evRest
set_option maxRecDepth 20000
structure MenH(x:List Int)(ch c:Int)(cs:List (List Int))(n:Nat)(cnt lost par:Int):Prop where
 C:Cut x ch c cs n
 h12:n≤12
 x96:x.length≤96
 c1:1≤cnt
 c4:cnt≤4
 l0:0≤lost
 l1:lost≤4095
section
variable {x:List Int} {ch c:Int} {cs:List (List Int)} {n:Nat} {cnt lost par:Int} {K:AV→List Blk→Prop}
theorem MenH.ll(H:MenH x ch c cs n cnt lost par):(lsJ lost 0 (blkRows ch c cs)).length≤12∧ ∀y ∈ lsJ lost 0 (blkRows ch c cs),0≤y∧y≤12:=by
 have h12:=H.h12
 have hl:(blkRows ch c cs).length=n:=by rw[rows_len,H.C.len]
 rw[ls_lost,hl]
 have:=lostJ_len lost n 0
 refine⟨by omega,fun y hy=> ?_⟩
 have:=(lostJ_mem lost n 0 y).1 hy
 omega
theorem MenH.tl(H:MenH x ch c cs n cnt lost par):(kpJ lost 0 (blkRows ch c cs)).length≤12:=by
 have h12:=H.h12
 have hl:(blkRows ch c cs).length=n:=by rw[rows_len,H.C.len]
 have:=(kp_sub lost (blkRows ch c cs) 0).length_le
 omega
theorem MenH.r(H:MenH x ch c cs n cnt lost par)(h:K (.one (.bool true)) []):rhsR x (dtJ lost 0 (blkRows ch c cs) (List.replicate n [0,0,0,0,0,0,0,0])) (parM ((blkRows ch c cs).map samX) cnt) (lsJ lost 0 (blkRows ch c cs)) (lostJ par 0 cnt.toNat) cnt n K:=by
 have hg:=H.C.grp H.h12 H.c1 H.c4 lost par
 have h1:=H.c1
 have h4:=H.c4
 have hS:=there_len par cnt.toNat 0
 have hw:IntKind.i64.wrap (cnt-((lostJ par 0 cnt.toNat).length:Int))=cnt-((lostJ par 0 cnt.toNat).length:Int):=wrap_id (by omega) (by omega)
 have hl:((blkRows ch c cs).map samX).length=n:=by rw[List.length_map,rows_len,H.C.len]
 refine And.intro hg.g (And.intro hg.g ?_)
 rw[hw]
 by_cases hc:((lsJ lost 0 (blkRows ch c cs)).length:Int)>cnt-((lostJ par 0 cnt.toNat).length:Int)
 ·obtain⟨e1,e2⟩:=hg.lost (by omega)
  rw[decide_eq_true hc,cond_true,e1,e2]
  exact h
 ·obtain⟨e1,e2⟩:=hg.fine (by omega)
  rw[decide_eq_false hc,cond_false,e1,e2,hl,bne_self_eq_false,cond_false,bne_self_eq_false,cond_false]
  have hxl:=H.C.xl
  exact⟨⟨H.x96,by omega,H.C.sam8,by decide,by omega,fun j hj=>H.C.at_x hj⟩,h⟩
theorem MenH.s(H:MenH x ch c cs n cnt lost par)(h1:1≤(kpJ lost 0 (blkRows ch c cs)).length)(h:K (.one (.bool true)) []):rhsS x (dtJ lost 0 (blkRows ch c cs) (List.replicate n [0,0,0,0,0,0,0,0])) (parM ((blkRows ch c cs).map samX) cnt) (kpJ lost 0 (blkRows ch c cs)) (lsJ lost 0 (blkRows ch c cs)) (lostJ par 0 cnt.toNat) (msJ c (kpJ lost 0 (blkRows ch c cs)) (lsJ lost 0 (blkRows ch c cs))) ch cnt n K:=by
 obtain⟨f1,f2,f3⟩:=H.C.mis H.h12 lost rfl h1
 have hr:=H.r h
 have hm:(msJ c (kpJ lost 0 (blkRows ch c cs)) (lsJ lost 0 (blkRows ch c cs))).length≤12:=by
  rw[ms_filter,List.length_map]
  exact Nat.le_trans (List.length_filter_le _ _) H.ll.1
 unfold rhsS
 rw[decide_eq_true (show((kpJ lost 0 (blkRows ch c cs)).length:Int)>0 by omega),cond_true]
 refine And.intro (by have:=H.tl;omega) (And.intro f1 ?_)
 rw[f2,bne_self_eq_false,cond_false,f3]
 refine And.intro (by omega) ?_
 rw[beq_self_eq_true]
 exact hr
theorem isE{α:Type}{l:List α}(h:l.isEmpty=true):l=[]:=List.isEmpty_iff.1 h
theorem notE{α:Type}{l:List α}(h:l.isEmpty=false):1≤l.length:=by cases l with|nil=>cases h|cons a b=>simp
theorem tH0(H:MenH x ch c cs n cnt lost par){D P T:List (List Int)}(hD:D=dtJ lost 0 (blkRows ch c cs) (List.replicate n [0,0,0,0,0,0,0,0]))(hP:P=parM ((blkRows ch c cs).map samX) cnt)(hL:lsJ lost 0 (blkRows ch c cs)=[])(hQ:lostJ par 0 cnt.toNat=[])(hT:kpJ lost 0 (blkRows ch c cs)=T)(hT1:1≤T.length)(hM:msJ c T []=[])(h:K (.one (.bool true)) []):evRest Emen Tryz.f5 25 { t:=([.any,.one (.ptr 0 1 0 0),.any,.any,.any,.one (.int .i64 ((n:Int))),.any,.any,.any,.any,.any,.any,.any,.any,.any,.one (.ptr 1 1 0 0),.one (.own 4 11),.one .nil]++List.replicate 337 .any),σ:=[.cells [.data (.ints .i64 x),.int .i64 ch,.int .i64 c,.int .i64 cnt,.int .i64 lost,.int .i64 par],.cells [.own 2 8,.own 3 8,.nil,.nil],.row 22 (.mat .i64 8 D),.row 22 (.mat .i64 8 P),.row 24 (.mat .i64 11 T)] } K:=by
 rw[exH0 (n:Int) ch c cnt lost par x D P T K]
 have:=H.s (K:=K) (by rw[hT];exact hT1) h
 rw[hL,hQ,hT,hM,← hD,← hP] at this
 exact this
theorem tH1(H:MenH x ch c cs n cnt lost par){D P T:List (List Int)}{Q:List Int}(hD:D=dtJ lost 0 (blkRows ch c cs) (List.replicate n [0,0,0,0,0,0,0,0]))(hP:P=parM ((blkRows ch c cs).map samX) cnt)(hL:lsJ lost 0 (blkRows ch c cs)=[])(hQ:lostJ par 0 cnt.toNat=Q)(hT:kpJ lost 0 (blkRows ch c cs)=T)(hT1:1≤T.length)(hM:msJ c T []=[])(h:K (.one (.bool true)) []):evRest Emen Tryz.f5 25 { t:=([.any,.one (.ptr 0 1 0 0),.any,.any,.any,.one (.int .i64 ((n:Int))),.any,.any,.any,.any,.any,.any,.any,.any,.any,.one (.ptr 1 1 0 0),.one (.own 5 11),.one .nil]++List.replicate 337 .any),σ:=[.cells [.data (.ints .i64 x),.int .i64 ch,.int .i64 c,.int .i64 cnt,.int .i64 lost,.int .i64 par],.cells [.own 2 8,.own 3 8,.nil,.own 4 1],.row 22 (.mat .i64 8 D),.row 22 (.mat .i64 8 P),.row 3 (.ints .i64 Q),.row 24 (.mat .i64 11 T)] } K:=by
 rw[exH1 (n:Int) ch c cnt lost par x D P T Q K]
 have:=H.s (K:=K) (by rw[hT];exact hT1) h
 rw[hL,hQ,hT,hM,← hD,← hP] at this
 exact this
theorem tH2(H:MenH x ch c cs n cnt lost par){D P:List (List Int)}{L:List Int}(hD:D=dtJ lost 0 (blkRows ch c cs) (List.replicate n [0,0,0,0,0,0,0,0]))(hP:P=parM ((blkRows ch c cs).map samX) cnt)(hL:lsJ lost 0 (blkRows ch c cs)=L)(hQ:lostJ par 0 cnt.toNat=[])(h:K (.one (.bool true)) []):evRest Emen Tryz.f5 25 { t:=([.any,.one (.ptr 0 1 0 0),.any,.any,.any,.one (.int .i64 ((n:Int))),.any,.any,.any,.any,.any,.any,.any,.any,.any,.one (.ptr 1 1 0 0),.one .nil,.one .nil]++List.replicate 337 .any),σ:=[.cells [.data (.ints .i64 x),.int .i64 ch,.int .i64 c,.int .i64 cnt,.int .i64 lost,.int .i64 par],.cells [.own 2 8,.own 3 8,.own 4 1,.nil],.row 22 (.mat .i64 8 D),.row 22 (.mat .i64 8 P),.row 3 (.ints .i64 L)] } K:=by
 rw[exH2 (n:Int) ch c cnt lost par x D P L K]
 have:=H.r (K:=K) h
 rw[hL,hQ,← hD,← hP] at this
 exact this
theorem tH3(H:MenH x ch c cs n cnt lost par){D P:List (List Int)}{L Q:List Int}(hD:D=dtJ lost 0 (blkRows ch c cs) (List.replicate n [0,0,0,0,0,0,0,0]))(hP:P=parM ((blkRows ch c cs).map samX) cnt)(hL:lsJ lost 0 (blkRows ch c cs)=L)(hQ:lostJ par 0 cnt.toNat=Q)(h:K (.one (.bool true)) []):evRest Emen Tryz.f5 25 { t:=([.any,.one (.ptr 0 1 0 0),.any,.any,.any,.one (.int .i64 ((n:Int))),.any,.any,.any,.any,.any,.any,.any,.any,.any,.one (.ptr 1 1 0 0),.one .nil,.one .nil]++List.replicate 337 .any),σ:=[.cells [.data (.ints .i64 x),.int .i64 ch,.int .i64 c,.int .i64 cnt,.int .i64 lost,.int .i64 par],.cells [.own 2 8,.own 3 8,.own 4 1,.own 5 1],.row 22 (.mat .i64 8 D),.row 22 (.mat .i64 8 P),.row 3 (.ints .i64 L),.row 3 (.ints .i64 Q)] } K:=by
 rw[exH3 (n:Int) ch c cnt lost par x D P L Q K]
 have:=H.r (K:=K) h
 rw[hL,hQ,← hD,← hP] at this
 exact this
theorem tH4(H:MenH x ch c cs n cnt lost par){D P T:List (List Int)}{L:List Int}(hD:D=dtJ lost 0 (blkRows ch c cs) (List.replicate n [0,0,0,0,0,0,0,0]))(hP:P=parM ((blkRows ch c cs).map samX) cnt)(hL:lsJ lost 0 (blkRows ch c cs)=L)(hQ:lostJ par 0 cnt.toNat=[])(hT:kpJ lost 0 (blkRows ch c cs)=T)(hT1:1≤T.length)(hM:msJ c T L=[])(h:K (.one (.bool true)) []):evRest Emen Tryz.f5 25 { t:=([.any,.one (.ptr 0 1 0 0),.any,.any,.any,.one (.int .i64 ((n:Int))),.any,.any,.any,.any,.any,.any,.any,.any,.any,.one (.ptr 1 1 0 0),.one (.own 5 11),.one .nil]++List.replicate 337 .any),σ:=[.cells [.data (.ints .i64 x),.int .i64 ch,.int .i64 c,.int .i64 cnt,.int .i64 lost,.int .i64 par],.cells [.own 2 8,.own 3 8,.own 4 1,.nil],.row 22 (.mat .i64 8 D),.row 22 (.mat .i64 8 P),.row 3 (.ints .i64 L),.row 24 (.mat .i64 11 T)] } K:=by
 rw[exH4 (n:Int) ch c cnt lost par x D P T L K]
 have:=H.s (K:=K) (by rw[hT];exact hT1) h
 rw[hL,hQ,hT,hM,← hD,← hP] at this
 exact this
theorem tH5(H:MenH x ch c cs n cnt lost par){D P T:List (List Int)}{L M:List Int}(hD:D=dtJ lost 0 (blkRows ch c cs) (List.replicate n [0,0,0,0,0,0,0,0]))(hP:P=parM ((blkRows ch c cs).map samX) cnt)(hL:lsJ lost 0 (blkRows ch c cs)=L)(hQ:lostJ par 0 cnt.toNat=[])(hT:kpJ lost 0 (blkRows ch c cs)=T)(hT1:1≤T.length)(hM:msJ c T L=M)(h:K (.one (.bool true)) []):evRest Emen Tryz.f5 25 { t:=([.any,.one (.ptr 0 1 0 0),.any,.any,.any,.one (.int .i64 ((n:Int))),.any,.any,.any,.any,.any,.any,.any,.any,.any,.one (.ptr 1 1 0 0),.one (.own 5 11),.one (.own 6 1)]++List.replicate 337 .any),σ:=[.cells [.data (.ints .i64 x),.int .i64 ch,.int .i64 c,.int .i64 cnt,.int .i64 lost,.int .i64 par],.cells [.own 2 8,.own 3 8,.own 4 1,.nil],.row 22 (.mat .i64 8 D),.row 22 (.mat .i64 8 P),.row 3 (.ints .i64 L),.row 24 (.mat .i64 11 T),.row 3 (.ints .i64 M)] } K:=by
 rw[exH5 (n:Int) ch c cnt lost par x D P T L M K]
 have:=H.s (K:=K) (by rw[hT];exact hT1) h
 rw[hL,hQ,hT,hM,← hD,← hP] at this
 exact this
theorem tH6(H:MenH x ch c cs n cnt lost par){D P T:List (List Int)}{L Q:List Int}(hD:D=dtJ lost 0 (blkRows ch c cs) (List.replicate n [0,0,0,0,0,0,0,0]))(hP:P=parM ((blkRows ch c cs).map samX) cnt)(hL:lsJ lost 0 (blkRows ch c cs)=L)(hQ:lostJ par 0 cnt.toNat=Q)(hT:kpJ lost 0 (blkRows ch c cs)=T)(hT1:1≤T.length)(hM:msJ c T L=[])(h:K (.one (.bool true)) []):evRest Emen Tryz.f5 25 { t:=([.any,.one (.ptr 0 1 0 0),.any,.any,.any,.one (.int .i64 ((n:Int))),.any,.any,.any,.any,.any,.any,.any,.any,.any,.one (.ptr 1 1 0 0),.one (.own 6 11),.one .nil]++List.replicate 337 .any),σ:=[.cells [.data (.ints .i64 x),.int .i64 ch,.int .i64 c,.int .i64 cnt,.int .i64 lost,.int .i64 par],.cells [.own 2 8,.own 3 8,.own 4 1,.own 5 1],.row 22 (.mat .i64 8 D),.row 22 (.mat .i64 8 P),.row 3 (.ints .i64 L),.row 3 (.ints .i64 Q),.row 24 (.mat .i64 11 T)] } K:=by
 rw[exH6 (n:Int) ch c cnt lost par x D P T L Q K]
 have:=H.s (K:=K) (by rw[hT];exact hT1) h
 rw[hL,hQ,hT,hM,← hD,← hP] at this
 exact this
theorem tH7(H:MenH x ch c cs n cnt lost par){D P T:List (List Int)}{L Q M:List Int}(hD:D=dtJ lost 0 (blkRows ch c cs) (List.replicate n [0,0,0,0,0,0,0,0]))(hP:P=parM ((blkRows ch c cs).map samX) cnt)(hL:lsJ lost 0 (blkRows ch c cs)=L)(hQ:lostJ par 0 cnt.toNat=Q)(hT:kpJ lost 0 (blkRows ch c cs)=T)(hT1:1≤T.length)(hM:msJ c T L=M)(h:K (.one (.bool true)) []):evRest Emen Tryz.f5 25 { t:=([.any,.one (.ptr 0 1 0 0),.any,.any,.any,.one (.int .i64 ((n:Int))),.any,.any,.any,.any,.any,.any,.any,.any,.any,.one (.ptr 1 1 0 0),.one (.own 6 11),.one (.own 7 1)]++List.replicate 337 .any),σ:=[.cells [.data (.ints .i64 x),.int .i64 ch,.int .i64 c,.int .i64 cnt,.int .i64 lost,.int .i64 par],.cells [.own 2 8,.own 3 8,.own 4 1,.own 5 1],.row 22 (.mat .i64 8 D),.row 22 (.mat .i64 8 P),.row 3 (.ints .i64 L),.row 3 (.ints .i64 Q),.row 24 (.mat .i64 11 T),.row 3 (.ints .i64 M)] } K:=by
 rw[exH7 (n:Int) ch c cnt lost par x D P T L Q M K]
 have:=H.s (K:=K) (by rw[hT];exact hT1) h
 rw[hL,hQ,hT,hM,← hD,← hP] at this
 exact this
theorem tG0(H:MenH x ch c cs n cnt lost par){D P T:List (List Int)}(hD:D=dtJ lost 0 (blkRows ch c cs) (List.replicate n [0,0,0,0,0,0,0,0]))(hP:P=parM ((blkRows ch c cs).map samX) cnt)(hL:lsJ lost 0 (blkRows ch c cs)=[])(hT:kpJ lost 0 (blkRows ch c cs)=T)(hT1:1≤T.length)(h:K (.one (.bool true)) []):evRest Emen Tryz.f5 21 { t:=([.any,.one (.ptr 0 1 0 0),.any,.any,.any,.one (.int .i64 ((n:Int))),.any,.any,.any,.any,.any,.any,.any,.any,.any,.one (.ptr 1 1 0 0),.one (.own 4 11),.one .nil]++List.replicate 337 .any),σ:=[.cells [.data (.ints .i64 x),.int .i64 ch,.int .i64 c,.int .i64 cnt,.int .i64 lost,.int .i64 par],.cells [.own 2 8,.own 3 8,.nil,.nil],.row 22 (.mat .i64 8 D),.row 22 (.mat .i64 8 P),.row 24 (.mat .i64 11 T)] } K:=by
 rw[evRest_stage Emen Tryz.f5 21 4,exmenG0 (n:Int) ch c cnt lost par x D P T K]
 have hc1:=H.c1
 have hc:=H.C.hc
 have hln:=H.C.lo
 have ht:=H.tl
 rw[hT] at ht
 refine And.intro ⟨by decide,by omega,H.c4⟩ ?_
 rw[Int.sub_zero]
 cases hq:(lostJ par 0 cnt.toNat).isEmpty with
 |true=>
  rw[cond_true]
  refine And.intro ⟨by decide,hT1,ht⟩ ?_
  show evRest Emen Tryz.f5 25 _ K
  exact tH0 H hD hP hL (isE hq) hT hT1 rfl h
 |false=>
  rw[cond_false]
  refine And.intro ⟨by decide,hT1,ht⟩ ?_
  show evRest Emen Tryz.f5 25 _ K
  exact tH1 H hD hP hL rfl hT hT1 rfl h
theorem tG1(H:MenH x ch c cs n cnt lost par){D P:List (List Int)}{L:List Int}(hD:D=dtJ lost 0 (blkRows ch c cs) (List.replicate n [0,0,0,0,0,0,0,0]))(hP:P=parM ((blkRows ch c cs).map samX) cnt)(hL:lsJ lost 0 (blkRows ch c cs)=L)(h:K (.one (.bool true)) []):evRest Emen Tryz.f5 21 { t:=([.any,.one (.ptr 0 1 0 0),.any,.any,.any,.one (.int .i64 ((n:Int))),.any,.any,.any,.any,.any,.any,.any,.any,.any,.one (.ptr 1 1 0 0),.one .nil,.one .nil]++List.replicate 337 .any),σ:=[.cells [.data (.ints .i64 x),.int .i64 ch,.int .i64 c,.int .i64 cnt,.int .i64 lost,.int .i64 par],.cells [.own 2 8,.own 3 8,.own 4 1,.nil],.row 22 (.mat .i64 8 D),.row 22 (.mat .i64 8 P),.row 3 (.ints .i64 L)] } K:=by
 rw[evRest_stage Emen Tryz.f5 21 4,exmenG1 (n:Int) ch c cnt lost par x D P L K]
 have hc1:=H.c1
 have hc:=H.C.hc
 have hln:=H.C.lo
 obtain⟨hl1,hl2⟩:=H.ll
 rw[hL] at hl1 hl2
 refine And.intro ⟨by decide,by omega,H.c4⟩ ?_
 rw[Int.sub_zero]
 cases hq:(lostJ par 0 cnt.toNat).isEmpty with
 |true=>
  rw[cond_true]
  refine And.intro ⟨by decide,by omega,hl1,hl2,by omega,by omega⟩ ?_
  show evRest Emen Tryz.f5 25 _ K
  exact tH2 H hD hP hL (isE hq) h
 |false=>
  rw[cond_false]
  refine And.intro ⟨by decide,by omega,hl1,hl2,by omega,by omega⟩ ?_
  show evRest Emen Tryz.f5 25 _ K
  exact tH3 H hD hP hL rfl h
theorem tG2(H:MenH x ch c cs n cnt lost par){D P T:List (List Int)}{L:List Int}(hD:D=dtJ lost 0 (blkRows ch c cs) (List.replicate n [0,0,0,0,0,0,0,0]))(hP:P=parM ((blkRows ch c cs).map samX) cnt)(hL:lsJ lost 0 (blkRows ch c cs)=L)(hT:kpJ lost 0 (blkRows ch c cs)=T)(hT1:1≤T.length)(h:K (.one (.bool true)) []):evRest Emen Tryz.f5 21 { t:=([.any,.one (.ptr 0 1 0 0),.any,.any,.any,.one (.int .i64 ((n:Int))),.any,.any,.any,.any,.any,.any,.any,.any,.any,.one (.ptr 1 1 0 0),.one (.own 5 11),.one .nil]++List.replicate 337 .any),σ:=[.cells [.data (.ints .i64 x),.int .i64 ch,.int .i64 c,.int .i64 cnt,.int .i64 lost,.int .i64 par],.cells [.own 2 8,.own 3 8,.own 4 1,.nil],.row 22 (.mat .i64 8 D),.row 22 (.mat .i64 8 P),.row 3 (.ints .i64 L),.row 24 (.mat .i64 11 T)] } K:=by
 rw[evRest_stage Emen Tryz.f5 21 4,exmenG2 (n:Int) ch c cnt lost par x D P T L K]
 have hc1:=H.c1
 have hc:=H.C.hc
 have hln:=H.C.lo
 obtain⟨hl1,hl2⟩:=H.ll
 rw[hL] at hl1 hl2
 have ht:=H.tl
 rw[hT] at ht
 refine And.intro ⟨by decide,by omega,H.c4⟩ ?_
 rw[Int.sub_zero]
 cases hq:(lostJ par 0 cnt.toNat).isEmpty with
 |true=>
  rw[cond_true]
  refine And.intro ⟨by decide,by omega,hl1,hl2,by omega,by omega,hT1,ht⟩ ?_
  cases hm:(msJ c T L).isEmpty with
  |true=>
   rw[cond_true]
   show evRest Emen Tryz.f5 25 _ K
   exact tH4 H hD hP hL (isE hq) hT hT1 (isE hm) h
  |false=>
   rw[cond_false]
   show evRest Emen Tryz.f5 25 _ K
   exact tH5 H hD hP hL (isE hq) hT hT1 rfl h
 |false=>
  rw[cond_false]
  refine And.intro ⟨by decide,by omega,hl1,hl2,by omega,by omega,hT1,ht⟩ ?_
  cases hm:(msJ c T L).isEmpty with
  |true=>
   rw[cond_true]
   show evRest Emen Tryz.f5 25 _ K
   exact tH6 H hD hP hL rfl hT hT1 (isE hm) h
  |false=>
   rw[cond_false]
   show evRest Emen Tryz.f5 25 _ K
   exact tH7 H hD hP hL rfl hT hT1 rfl h
theorem tE(H:MenH x ch c cs n cnt lost par){S:List (List D)}{P X:List (List Int)}{a0 a4 a7 a14 a29 a30 a31 a32 a33 a34 a35 a36 a37 a38 a39 a40 a41 a42 a43 a44 a45 a46 a47 a48 a49 a50 a51 a52 a53 a54 a55 a56 a57 a58 a59 a60 a61 a62 a63 a64 a65 a66 a67 a68 a69 a70 a71 a72 a73 a74 a75 a76 a77 a78 a79 a80 a81 a82 a83 a84 a85 a86 a87 a88 a148 a149 a150 a151 a152 a153 a154 a155 a156 a157 a158 a159 a160 a161 a162 a163 a164:AV}(hS:S=strsG (blkRows ch c cs))(hP:P=parM ((blkRows ch c cs).map samX) cnt)(hPl:(P.length:Int)=cnt)(h:K (.one (.bool true)) []):evRest Emen Tryz.f5 16 { t:=([a0,AV.one (SV.ptr (0:Nat) (1:Nat) (0:Nat) (0:Nat)),AV.any,AV.one (SV.data (Row.mat IntKind.i64 (11:Nat) (blkRows ch c cs))),a4,AV.one (SV.int IntKind.i64 (n:Int)),AV.one (SV.own (2:Nat) (1:Nat)),a7,AV.any,AV.any,AV.any,AV.any,AV.any,AV.one (SV.data (Row.mat IntKind.i64 (8:Nat) P)),a14,AV.any,AV.any,AV.any,AV.any,AV.any,AV.any,AV.any,AV.any,AV.any,AV.any,AV.any,AV.any,AV.any,AV.any,a29,a30,a31,a32,a33,a34,a35,a36,a37,a38,a39,a40,a41,a42,a43,a44,a45,a46,a47,a48,a49,a50,a51,a52,a53,a54,a55,a56,a57,a58,a59,a60,a61,a62,a63,a64,a65,a66,a67,a68,a69,a70,a71,a72,a73,a74,a75,a76,a77,a78,a79,a80,a81,a82,a83,a84,a85,a86,a87,a88,AV.any,AV.any,AV.any,AV.any,AV.any,AV.any,AV.any,AV.any,AV.any,AV.any,AV.any,AV.any,AV.any,AV.any,AV.any,AV.any,AV.any,AV.any,AV.any,AV.any,AV.any,AV.any,AV.any,AV.any,AV.any,AV.any,AV.any,AV.any,AV.any,AV.any,AV.any,AV.any,AV.any,AV.any,AV.any,AV.any,AV.any,AV.any,AV.any,AV.any,AV.any,AV.any,AV.any,AV.any,AV.any,AV.any,AV.any,AV.any,AV.any,AV.any,AV.any,AV.any,AV.any,AV.any,AV.any,AV.any,AV.any,AV.any,AV.any,a148,a149,a150,a151,a152,a153,a154,a155,a156,a157,a158,a159,a160,a161,a162,a163,a164]++List.replicate 190 .any),σ:=[Blk.cells [SV.data (Row.ints IntKind.i64 x),SV.int IntKind.i64 ch,SV.int IntKind.i64 c,SV.int IntKind.i64 cnt,SV.int IntKind.i64 lost,SV.int IntKind.i64 par],Blk.dead,Blk.row (9:TypeId) (Row.recs [CK.str] S),Blk.row (22:TypeId) (Row.mat IntKind.i64 (8:Nat) X),Blk.dead] } K:=by
 rw[evRest_stage Emen Tryz.f5 16 5,exmenE]
 have hlen:(blkRows ch c cs).length=n:=by rw[rows_len,H.C.len]
 have hT:=H.C.okT H.h12
 have h12:=H.h12
 have hc4:=H.c4
 have hx0: ∀B:St→Prop,B=(fun s'=>evRest Emen Tryz.f5 (16+5) s' K)→exmenE_x0 x (blkRows ch c cs) n ch c cnt lost par S P X a0 a4 a7 a14 a29 a30 a31 a32 a33 a34 a35 a36 a37 a38 a39 a40 a41 a42 a43 a44 a45 a46 a47 a48 a49 a50 a51 a52 a53 a54 a55 a56 a57 a58 a59 a60 a61 a62 a63 a64 a65 a66 a67 a68 a69 a70 a71 a72 a73 a74 a75 a76 a77 a78 a79 a80 a81 a82 a83 a84 a85 a86 a87 a88 a148 a149 a150 a151 a152 a153 a154 a155 a156 a157 a158 a159 a160 a161 a162 a163 a164 K B:=by
  intro B hB
  unfold exmenE_x0
  rw[show((n:Int)).toNat=n by omega]
  refine And.intro ⟨hT,by decide,by omega,hS,by rw[List.length_replicate,hlen],H.l0,H.l1,rfl⟩ ?_
  cases ht:(kpJ lost 0 (blkRows ch c cs)).isEmpty with
  |true=>
   rw[cond_true,hB]
   show evRest Emen Tryz.f5 21 _ K
   exact tG1 H rfl hP rfl h
  |false=>
   rw[cond_false]
   cases hl:(lsJ lost 0 (blkRows ch c cs)).isEmpty with
   |true=>
    rw[cond_true,hB]
    show evRest Emen Tryz.f5 21 _ K
    exact tG0 H rfl hP (isE hl) rfl (notE ht) h
   |false=>
    rw[cond_false,hB]
    show evRest Emen Tryz.f5 21 _ K
    exact tG2 H rfl hP rfl rfl (notE ht) h
 have x0:=hx0 _ rfl
 have hcd:(decide ((0:Int)≤(n:Int))&&(decide ((n:Int)≤(n:Int))&&decide ((n:Int)*64≤140737488355328∧(n:Int)≤140737488355328)))=true:=by
  rw[decide_eq_true (show(0:Int)≤(n:Int) by omega),decide_eq_true (show(n:Int)≤(n:Int) by omega),decide_eq_true (show(n:Int)*64≤140737488355328∧(n:Int)≤140737488355328 by omega)];rfl
 have hp:P.length≤1000000:=by omega
 have x1:exmenE_x1 x (blkRows ch c cs) n ch c cnt lost par S P X a0 a4 a7 a14 a29 a30 a31 a32 a33 a34 a35 a36 a37 a38 a39 a40 a41 a42 a43 a44 a45 a46 a47 a48 a49 a50 a51 a52 a53 a54 a55 a56 a57 a58 a59 a60 a61 a62 a63 a64 a65 a66 a67 a68 a69 a70 a71 a72 a73 a74 a75 a76 a77 a78 a79 a80 a81 a82 a83 a84 a85 a86 a87 a88 a148 a149 a150 a151 a152 a153 a154 a155 a156 a157 a158 a159 a160 a161 a162 a163 a164 K (fun s'=>evRest Emen Tryz.f5 (16+5) s' K):=And.intro hp x0
 have x2:exmenE_x2 x (blkRows ch c cs) n ch c cnt lost par S P X a0 a4 a7 a14 a29 a30 a31 a32 a33 a34 a35 a36 a37 a38 a39 a40 a41 a42 a43 a44 a45 a46 a47 a48 a49 a50 a51 a52 a53 a54 a55 a56 a57 a58 a59 a60 a61 a62 a63 a64 a65 a66 a67 a68 a69 a70 a71 a72 a73 a74 a75 a76 a77 a78 a79 a80 a81 a82 a83 a84 a85 a86 a87 a88 a148 a149 a150 a151 a152 a153 a154 a155 a156 a157 a158 a159 a160 a161 a162 a163 a164 K (fun s'=>evRest Emen Tryz.f5 (16+5) s' K):=by
  unfold exmenE_x2
  rw[hcd];exact x0
 rw[hcd]
 exact⟨⟨x1,x1⟩,⟨hp,x2,x2⟩,x1,hp,x2⟩
theorem tD(H:MenH x ch c cs n cnt lost par){S:List (List D)}{P X:List (List Int)}{e:Int}{a0 a4 a7 a29 a30 a31 a32 a33 a34 a35 a36 a37 a38 a39 a40 a41 a42 a43 a44 a45 a46 a47 a48 a49 a50 a51 a52 a53 a54 a55 a56 a57 a58 a59 a60 a61 a62 a63 a64 a65 a66 a67 a68 a69 a70 a71 a72 a73 a74 a75 a76 a77 a78 a79 a80 a81 a82 a83 a84 a85 a86 a87 a88 a148 a149 a150 a151 a152 a153 a154 a155:AV}(hS:S=strsG (blkRows ch c cs))(hP:P=parM ((blkRows ch c cs).map samX) cnt)(hPl:(P.length:Int)=cnt)(he:e=0)(h:K (.one (.bool true)) []):evRest Emen Tryz.f5 14 { t:=([a0,AV.one (SV.ptr (0:Nat) (1:Nat) (0:Nat) (0:Nat)),AV.any,AV.one (SV.data (Row.mat IntKind.i64 (11:Nat) (blkRows ch c cs))),a4,AV.one (SV.int IntKind.i64 (n:Int)),AV.one (SV.own (2:Nat) (1:Nat)),a7,AV.any,AV.any,AV.any,AV.any,AV.any,AV.one (SV.data (Row.mat IntKind.i64 (8:Nat) P)),AV.one (SV.int IntKind.i64 e),AV.any,AV.any,AV.any,AV.any,AV.any,AV.any,AV.any,AV.any,AV.any,AV.any,AV.any,AV.any,AV.any,AV.any,a29,a30,a31,a32,a33,a34,a35,a36,a37,a38,a39,a40,a41,a42,a43,a44,a45,a46,a47,a48,a49,a50,a51,a52,a53,a54,a55,a56,a57,a58,a59,a60,a61,a62,a63,a64,a65,a66,a67,a68,a69,a70,a71,a72,a73,a74,a75,a76,a77,a78,a79,a80,a81,a82,a83,a84,a85,a86,a87,a88,AV.any,AV.any,AV.any,AV.any,AV.any,AV.any,AV.any,AV.any,AV.any,AV.any,AV.any,AV.any,AV.any,AV.any,AV.any,AV.any,AV.any,AV.any,AV.any,AV.any,AV.any,AV.any,AV.any,AV.any,AV.any,AV.any,AV.any,AV.any,AV.any,AV.any,AV.any,AV.any,AV.any,AV.any,AV.any,AV.any,AV.any,AV.any,AV.any,AV.any,AV.any,AV.any,AV.any,AV.any,AV.any,AV.any,AV.any,AV.any,AV.any,AV.any,AV.any,AV.any,AV.any,AV.any,AV.any,AV.any,AV.any,AV.any,AV.any,a148,a149,a150,a151,a152,a153,a154,a155]++List.replicate 199 .any),σ:=[Blk.cells [SV.data (Row.ints IntKind.i64 x),SV.int IntKind.i64 ch,SV.int IntKind.i64 c,SV.int IntKind.i64 cnt,SV.int IntKind.i64 lost,SV.int IntKind.i64 par],Blk.dead,Blk.row (9:TypeId) (Row.recs [CK.str] S),Blk.row (22:TypeId) (Row.mat IntKind.i64 (8:Nat) X),Blk.dead] } K:=by
 rw[evRest_stage Emen Tryz.f5 14 2,exmenD,he,bne_self_eq_false,cond_false,hPl,bne_self_eq_false,cond_false]
 show evRest Emen Tryz.f5 16 _ K
 exact tE H hS hP hPl h
theorem tC(H:MenH x ch c cs n cnt lost par){S:List (List D)}{X:List (List Int)}{a0 a4 a29 a30 a31 a32 a33 a34 a35 a36 a37 a38 a39 a40 a41 a42 a43 a44 a45 a46 a47 a48 a49 a50 a51 a52 a53 a54 a55 a56 a57 a58 a59 a60 a61 a62 a63 a64 a65 a66 a67 a68 a69 a70 a71 a72 a73 a74 a75 a76 a77 a78 a79 a80 a81 a82 a83 a84 a85 a86 a87 a88:AV}(hS:S=strsG (blkRows ch c cs))(hX:X=(blkRows ch c cs).map samX)(h:K (.one (.bool true)) []):evRest Emen Tryz.f5 13 { t:=([a0,AV.one (SV.ptr (0:Nat) (1:Nat) (0:Nat) (0:Nat)),AV.any,AV.one (SV.data (Row.mat IntKind.i64 (11:Nat) (blkRows ch c cs))),a4,AV.one (SV.int IntKind.i64 (n:Int)),AV.one (SV.own 2 (1:Nat)),AV.one (SV.own 3 (8:Nat)),AV.any,AV.any,AV.any,AV.any,AV.any,AV.any,AV.any,AV.any,AV.any,AV.any,AV.any,AV.any,AV.any,AV.any,AV.any,AV.any,AV.any,AV.any,AV.any,AV.any,AV.any,a29,a30,a31,a32,a33,a34,a35,a36,a37,a38,a39,a40,a41,a42,a43,a44,a45,a46,a47,a48,a49,a50,a51,a52,a53,a54,a55,a56,a57,a58,a59,a60,a61,a62,a63,a64,a65,a66,a67,a68,a69,a70,a71,a72,a73,a74,a75,a76,a77,a78,a79,a80,a81,a82,a83,a84,a85,a86,a87,a88]++List.replicate 266 .any),σ:=[Blk.cells [SV.data (Row.ints IntKind.i64 x),SV.int IntKind.i64 ch,SV.int IntKind.i64 c,SV.int IntKind.i64 cnt,SV.int IntKind.i64 lost,SV.int IntKind.i64 par],Blk.dead,Blk.row (9:TypeId) (Row.recs [CK.str] S),Blk.row (22:TypeId) (Row.mat IntKind.i64 (8:Nat) X)] } K:=by
 have hc1:=H.c1
 have hc4:=H.c4
 have h12:=H.h12
 have hd:=H.C.dataE H.h12 hc1 hc4
 have hl:((blkRows ch c cs).map samX).length=n:=by rw[List.length_map,rows_len,H.C.len]
 have hpv:parV ((blkRows ch c cs).map samX) cnt=parM ((blkRows ch c cs).map samX) cnt:=by unfold parV;rw[hd];rfl
 have hpl:((parM ((blkRows ch c cs).map samX) cnt).length:Int)=cnt:=by
  have:(parM ((blkRows ch c cs).map samX) cnt).length=cnt.toNat:=rowsF_length _ cnt.toNat 0
  rw[this];omega
 rw[evRest_stage Emen Tryz.f5 13 1,exmenC]
 refine And.intro (by rw[hX,hl];omega) (And.intro ⟨by rw[hX,hl];omega,by rw[hX];exact H.C.sam8⟩ ?_)
 show evRest Emen Tryz.f5 14 _ K
 rw[hX,hpv]
 exact tD H hS rfl hpl hd h
theorem tB(H:MenH x ch c cs n cnt lost par){a0 a4 a29 a30 a31 a32 a33 a34 a35 a36 a37 a38 a39 a40 a41 a42 a43 a44 a45 a46 a47 a48 a49 a50 a51 a52 a53 a54 a55 a56 a57 a58 a59 a60 a61 a62 a63 a64 a65 a66 a67 a68 a69 a70 a71 a72 a73 a74 a75 a76 a77 a78 a79 a80 a81 a82 a83 a84 a85 a86 a87 a88:AV}(h:K (.one (.bool true)) []):evRest Emen Tryz.f5 12 { t:=([a0,AV.one (SV.ptr 0 (1:Nat) (0:Nat) (0:Nat)),AV.one (SV.bool false),AV.one (SV.data (Row.mat IntKind.i64 (11:Nat) (blkRows ch c cs))),a4,AV.one (SV.int IntKind.i64 (n:Int)),AV.one SV.nil,AV.one SV.nil,AV.one (SV.int IntKind.i64 (0:Int)),AV.any,AV.any,AV.any,AV.any,AV.any,AV.any,AV.any,AV.any,AV.any,AV.any,AV.any,AV.any,AV.any,AV.any,AV.any,AV.any,AV.any,AV.any,AV.any,AV.any,a29,a30,a31,a32,a33,a34,a35,a36,a37,a38,a39,a40,a41,a42,a43,a44,a45,a46,a47,a48,a49,a50,a51,a52,a53,a54,a55,a56,a57,a58,a59,a60,a61,a62,a63,a64,a65,a66,a67,a68,a69,a70,a71,a72,a73,a74,a75,a76,a77,a78,a79,a80,a81,a82,a83,a84,a85,a86,a87,a88]++List.replicate 266 .any),σ:=[Blk.cells [SV.data (Row.ints IntKind.i64 x),SV.int IntKind.i64 ch,SV.int IntKind.i64 c,SV.int IntKind.i64 cnt,SV.int IntKind.i64 lost,SV.int IntKind.i64 par],Blk.dead] } K:=by
 rw[evRest_stage Emen Tryz.f5 12 1,exmenB]
 refine And.intro ⟨H.C.okT H.h12,rfl⟩ ?_
 show evRest Emen Tryz.f5 13 _ K
 exact tC H rfl rfl h
end
theorem okmen:SpecOK Tryz.prog 5 menS:=by
 refine specOKd (n:=355) (m:=0) (lps:=[(12,.frm 0 [3,5,6,7,8] [2,6,7] tmA),(27,.spec [1,3,5,6,15,16,17,18] [1,2,5,15,16,17] tmB),(37,.spec [1,5,15,16,17,21] [1,5,15,16,17] tmC),(42,.spec [1,5,15,16,17,22] [1,5,15,16,17] tmD),(57,.frm 1 [1,26,28] [2] tmE)]) [20,25,27,30] (.cons oktaw (.cons ok36 (.cons ok25 (.cons ok35 (.cons okboD (.cons ok28V (.cons ok47V (.cons ok21 (.cons okfmb (.cons ok41 (.cons okparD (.cons okpab (.cons okcpb (.cons okmisD (.cons ok30 (.cons okcgr (.cons okrdD .nil))))))))))))))))) Tryz.func5 (by kernel_rfl) (by kernel_rfl) (theLoops (n:=5) (by kernel_rfl) fun i hi=> ?_) fun args σ K h=> ?_
 ·match i,hi with
  |0,_=>exact loopHyp_frm (E':=EmenF0) (key:=12) (m:=0) (by kernel_rfl) rfl rfl lokmen_0
  |1,_=>exact loopHyp_of (key:=27) (by kernel_rfl) rfl lokmen_1
  |2,_=>exact loopHyp_of (key:=37) (by kernel_rfl) rfl lokmen_2
  |3,_=>exact loopHyp_of (key:=42) (by kernel_rfl) rfl lokmen_3
  |4,_=>exact loopHyp_frm (E':=EmenF1) (key:=57) (m:=1) (by kernel_rfl) rfl rfl lokmen_4
 unfold menS at h
 split at h
 rotate_right
 ·exact h.elim
 rename_i x ch c cnt lost par
 rw[evFn_rest (by kernel_rfl) (by kernel_rfl),evRest_stage Emen Tryz.f5 0 12,exmenA]
 by_cases h0:(x.length:Int)=0
 ·rw[h0];exact h
 rw[show((x.length:Int)==0)=false from beq_eq_false_iff_ne.2 h0,cond_false]
 by_cases h96:(x.length:Int)>96
 ·rw[decide_eq_true h96];exact h
 rw[decide_eq_false h96,cond_false]
 refine And.intro (by omega) ?_
 cases hce:(cutE x ch c != 0) with
 |true=>exact h
 |false=>
  have hcut:cutE x ch c=0:=by simpa using hce
  rw[cond_false]
  cases hcn:(decide (1≤cnt)&&decide (cnt≤4)) with
  |false=>exact h
  |true=>
   rw[Bool.not_true,cond_false]
   cases hlo:(decide (0≤lost)&&decide (lost≤4095)) with
   |false=>exact h
   |true=>
    rw[Bool.not_true,cond_false]
    cases hpa:(decide (0≤par)&&decide (par≤15)) with
    |false=>exact h
    |true=>
     rw[Bool.not_true,cond_false,cond_false]
     refine And.intro (by omega) (And.intro (by omega) ?_)
     simp only[Bool.and_eq_true,decide_eq_true_eq] at hcn hlo hpa
     have C:=cut_of hcut (by omega) (by omega)
     have hbr:boRows x ch c=blkRows ch c (chunkC x (countN x)):=by unfold boRows cutRows;rw[hcut];rfl
     have hn12:countN x≤12:=by unfold countN;omega
     have H:MenH x ch c (chunkC x (countN x)) (countN x) cnt lost par:=⟨C,hn12,by omega,hcn.1,hcn.2,hlo.1,hlo.2⟩
     have w1:IntKind.i64.wrap ((x.length:Int)+7)=(x.length:Int)+7:=wrap_id (by omega) (by omega)
     have e1:((x.length:Int)+7).tdiv 8=(countN x:Int):=by
      rw[Int.tdiv_eq_ediv_of_nonneg (by omega)]
      unfold countN;omega
     have w2:IntKind.i64.wrap (countN x:Int)=(countN x:Int):=wrap_id (by omega) (by omega)
     have hl:(blkRows ch c (chunkC x (countN x))).length=countN x:=by rw[rows_len,C.len]
     rw[w1,e1,w2,hbr,hl,bne_self_eq_false,cond_false]
     show evRest Emen Tryz.f5 12 _ K
     exact tB H h
end Go.Ev
namespace Go
section
variable {H:Type} {enc:TypeId × Value→H}
theorem returnsInHanded_of_change_and_shaped{a:Assume}{C:Checked}{os:Os}{f:FuncId}{fn:Func}{s:ChangeSpec}{conds:List PathCond}{apart fresh handsOn again:Bool}{X:World→Array Value→Prop}
  (hX: ∀(w w':World) (args:Array Value),w.heap=w'.heap→X w args→X w' args)
  (own:ownKnob C.prog.godebug=none) (started:os.Started) (noInit:C.prog.inits.idxOf? f=none) (hfn:C.prog.funcs[f]? = some fn)
  (witness: ∃(w:World) (tape:Tape) (i:Input),w.os=os∧(w.forCall tape i).Shaped C.prog∧i.vars=[]∧Input.okWide C.prog (w.forCall tape i) .any w.heap.size f i∧
   ((s.pre enc C.prog fn conds apart (w.forCall tape i).memory i.args∧X (w.forCall tape i).memory i.args)∧sizedMet enc C.prog fn (OpenSpec.ofChange s) apart (w.forCall tape i).memory i.args)∧a.holds C.prog (lone (Frame.enter C.prog f i.args .normal) [] (w.forCall tape i)))
  (contract: ∀(W:World) (base:Nat) (args:Array Value) (ds gs:List (DataW H)) (before:List MemPlace),(∀(j:Nat) t v,fn.params[j]? = some t→args[j]? = some v→Value.okWide C.prog W .any base t v)→
   DataW.Whole enc C.prog fn.params.toList s.vars apart W args.toList ds gs before→X W args→W.ShapedOpen C.prog→
   Calls C.prog f args W fun e W'=> ∃v,e= .returned v∧s.post enc C.prog fn apart fresh handsOn again W args v W'):
  ReturnsInHanded a C os f .any (fun w args=>(s.pre enc C.prog fn conds apart w args∧X w args)∧sizedMet enc C.prog fn (OpenSpec.ofChange s) apart w args) (s.post enc C.prog fn apart fresh handsOn again):=by
 refine returnsInHanded_of_calls own started noInit witness ?_
 intro w tape i _ hsh _ hok hpre hholds
 obtain⟨_,_,_,fn',hfn',_,_,_,_,hval⟩:=hok
 have e:fn'=fn:=Option.some.inj (hfn'.symm.trans hfn)
 subst e
 obtain⟨⟨⟨ds,gs,before,hw,hc⟩,hx⟩,hz⟩:=hpre
 have hw':=DataW.Whole.of_heap (w':=w.forCall tape i) (by rfl) hw
 refine(contract (w.forCall tape i) w.heap.size i.args ds gs before hval hw' (hX _ _ _ (by rfl) hx) hsh).mono fun e W' ⟨v,he,hp⟩=> ?_
 subst he
 exact ChangeSpec.post_blind hp
end
theorem block_of_shapedOpen_int{P:Program}{w:World}{g:Nat}{t:TypeId}{zero:Array Value}{k:IntKind}
  (h:w.ShapedOpen P) (hg:g<P.globals.size)
  (h0:((begin P (fun _ _=>0) default).world.heap[g]?).bind Obj.row? = some (zero,t)) (hz:zero.size=1)
  (hb:P.buildable t=true) (hc:P.cellTypes P.depth t=some [t]) (hu:P.underlying t=some (.int k)):
  ∃m fr,w.heap[g]? = some (.cells #[.int k m] t fr):=by
 obtain⟨cs,hh,hs,hr⟩:=h.1 g zero t hg h0
 obtain⟨ts,hts,_,hall⟩:=hr hb
 rw[hc] at hts
 cases hts
 have h1:0<cs.size:=by omega
 obtain⟨u,hu',hok⟩:=hall 0 cs[0] (by simp[h1])
 have:u=t:=by simpa using hu'.symm
 subst this
 unfold Cell.ok at hok
 rw[hu] at hok
 cases hv:cs[0]<;>rw[hv] at hok<;>simp at hok
 case int k' n=>
  refine⟨n,(0,0),hh.trans ?_⟩
  congr 2
  apply Array.ext
  ·simp;omega
  ·intro i h1 h2
   have:i=0:=by simp at h2;omega
   subst this
   rw[hv,hok.1];rfl
end Go
namespace Go.Ev
open Go Go.Proofs Go.RowKit
theorem laid_tail{P:Program}{x:String × DataW Unit}{r:List (String × DataW Unit)}{w:World}(h:laidMet P (x::r) w):laidMet P r w:=by
 obtain⟨ps,⟨g,t,cs,fuel,p,q,hg,ht,hv,hd,hr,rfl⟩,hn,hc⟩:=h
 exact⟨q,hr,(List.nodup_append.1 hn).2.1,fun b off hb=>hc b off (List.mem_append_right _ hb)⟩
theorem var_block{P:Program}{w:World}{name:String}{g:Nat}{cs:Array Value}(hg:P.globalNamed name=some g)(h:w.var? P name=some cs): ∃t fr,w.heap[g]? = some (.cells cs t fr):=by
 unfold World.var? at h
 rw[hg] at h
 change (match w.heap[g]? with|some (.cells cs _ _)=>some cs|_=>none)=some cs at h
 split at h
 ·rename_i c t fr hh
  cases h
  exact⟨t,fr,hh⟩
 ·cases h
theorem all2_tab(k:IntKind): ∀zs:List Int,All2 plainDen (zs.map (SV.int k)) (zs.map fun z=>Value.int k z)
 |[]=>trivial
 |z::zs=>⟨rfl,all2_tab k zs⟩
theorem glob_block{w:World}{g:Nat}{l:List SV}{arr:Array Value}{t:TypeId}{fr:Nat × Nat}(h:w.heap[g]? = some (.cells arr t fr))(hl:All2 plainDen l arr.toList):
  g<w.heap.size∧¬Mut (fun _=>False) [] [] g∧ ∀(j:Nat) (sv:SV),l[j]? = some sv→(∃u,w.cell? ⟨g,j,none⟩=some u∧plainDen sv u)∧ ∃arr t fr,w.heap[g]? = some (.cells arr t fr)∧arr.size=l.length:=by
 refine⟨(Array.getElem?_eq_some_iff.1 h).1,?_,fun j sv hj=>⟨?_,arr,t,fr,h,by rw[hl.length];simp⟩⟩
 ·rintro (h|⟨id,_,_,_,h,_⟩)
  ·exact h
  ·simp at h
 ·obtain⟨u,hu,hd⟩:=hl.get hj
  exact⟨u,by rw[cell_of_cells h];simpa using hu,hd⟩
theorem glob_int{w:World}{g:Nat}{m:Int}{t:TypeId}{fr:Nat × Nat}(h:w.heap[g]? = some (.cells #[.int .i64 m] t fr)): g<w.heap.size∧¬Mut (fun _=>False) [] [] g∧ ∀(j:Nat) (sv:SV),[SV.any][j]? = some sv→(∃u,w.cell? ⟨g,j,none⟩=some u∧plainDen sv u)∧ ∃arr t fr,w.heap[g]? = some (.cells arr t fr)∧arr.size=[SV.any].length:= glob_block h ⟨⟨m,rfl⟩,trivial⟩
theorem maxlen_glob{w:World}(hs:w.ShapedOpen Tryz.prog): ∃m t fr,w.heap[1]? = some (.cells #[.int .i64 m] t fr):=by
 obtain⟨m,fr,h⟩:=block_of_shapedOpen_int (P:=Tryz.prog) (g:=1) (t:=3) (zero := #[.int .i64 0]) (k:= .i64) hs (by decide +kernel) (by kernel_rfl) rfl (by kernel_rfl) (by kernel_rfl) (by kernel_rfl)
 exact⟨m,3,fr,h⟩
theorem row_err(u:TypeId) (h:Tryz.prog.typeName? 3 u=some "*errors.errorString"):u=224:=
 typeName_ptr_named (nm := "errors.errorString") (by rw[show "*" ++ "errors.errorString" = "*errors.errorString" by decide];kernel_rfl) (by kernel_rfl) (by decide) u (by rw[show "*" ++ "errors.errorString" = "*errors.errorString" by decide];exact h)
theorem err_glob{w:World}{n:String}{g:Nat}{text:List UInt8}{r:List (String × DataW Unit)}
  (hg:Tryz.prog.globalNamed n=some g) (ht:(Tryz.prog.globals[g]?).map (·.type)=some 152)
  (h:laidMet Tryz.prog ((n,.iface "*errors.errorString" (.ptr (.agg [.lit (.string text)])))::r) w): ∃a t fr,w.heap[g]? = some (.cells #[.iface 224 (.pointer (some a))] t fr):=by
 obtain⟨a,s,hv,_⟩:=laid_sentinel h hg ht Tryz.underlying152 row_err Tryz.underlying224 Tryz.underlying226 rfl rfl Tryz.underlying9 (by kernel_rfl) (by kernel_rfl)
 obtain⟨t,fr,hb⟩:=var_block hg hv
 exact⟨a,t,fr,hb⟩
theorem all2_ifc(u:TypeId)(v:Value):All2 plainDen [SV.ifc false] [Value.iface u v]:=⟨.inr ⟨rfl,_,_,rfl⟩,trivial⟩
end Go.Ev
namespace Go.Ev
open Go Go.Proofs Go.RowKit
theorem blk_glob{w:World}{a b c:String × DataW Unit}{t1 t2:List UInt8}{r:List (String × DataW Unit)}
  (h:laidMet Tryz.prog (a::b::("internal/strconv.uint64pow10",Lib.tabData .u64 Lib.pow10Tab)::c::("strconv.ErrRange",.iface "*errors.errorString" (.ptr (.agg [.lit (.string t1)])))::("strconv.ErrSyntax",.iface "*errors.errorString" (.ptr (.agg [.lit (.string t2)])))::r) w) (hs:w.ShapedOpen Tryz.prog):
  GlobOK (Mut (fun _=>False) [] []) w:=by
 have h2:=laid_tail (laid_tail h)
 have h4:=laid_tail (laid_tail h2)
 have h5:=laid_tail h4
 have htab:=Lib.tabIs_of_head (g:=2) (t:=208) (e:=179) (n:=20) (by kernel_rfl) (by kernel_rfl) (by kernel_rfl) (by kernel_rfl) (by kernel_rfl) (by kernel_rfl) h2
 obtain⟨t2,fr2,hb2⟩:=var_block (show Tryz.prog.globalNamed "internal/strconv.uint64pow10" = some 2 by kernel_rfl) htab
 obtain⟨m,t1,fr1,hb1⟩:=maxlen_glob hs
 obtain⟨a4,t4,fr4,hb4⟩:=err_glob (g:=4) (by kernel_rfl) (by kernel_rfl) h4
 obtain⟨a3,t3,fr3,hb3⟩:=err_glob (g:=3) (by kernel_rfl) (by kernel_rfl) h5
 have k2:=glob_block hb2 (all2_tab .u64 Lib.pow10Tab)
 have k3:=glob_block (l:=[SV.ifc false]) hb3 (all2_ifc _ _)
 have k4:=glob_block (l:=[SV.ifc false]) hb4 (all2_ifc _ _)
 intro g l hl
 match g,hl with
 |0,hl=>cases hl
 |1,hl=>cases hl;exact glob_int hb1
 |2,hl=>cases hl;exact k2
 |3,hl=>cases hl;exact k3
 |4,hl=>cases hl;exact k4
 |n+5,hl=>cases hl
end Go.Ev
namespace Go.Proofs.YtmailpnpjcpodaaGreatDoor
open Go Go.ChangeShapes Go.WideShapes
theorem topTransferMended_named:Tryz.pinned.checked.prog.funcNamed Rows.topTransferMendedRow.func=some 5:=by kernel_rfl
theorem topTransferMended_closed:joinedFacts Tryz.pinned.checked.prog 5 Tryz.f5 Rows.topTransferMendedSpec Rows.topTransferMendedRow=true:=by kernel_rfl
theorem topTransferMended_inst:Tryz.f5.isInstance Tryz.pinned.checked.prog Rows.topTransferMendedRow.origin Rows.topTransferMendedRow.targs:=of_decide_eq_true (by kernel_rfl)
theorem topTransferMended_wrap:Tryz.f5.isWrapper Tryz.pinned.checked.prog Rows.topTransferMendedRow.wrapper Rows.topTransferMendedRow.mainSum:=by unfold Func.isWrapper;first|(rw[if_pos (by decide +kernel)];kernel_rfl)|(rw[if_neg (by decide +kernel)];exact⟨rfl,rfl⟩)
theorem topTransferMended_wf:Rows.topTransferMendedRow.wfByText (OpenSpec.ofChange Rows.topTransferMendedSpec)=true:=by kernel_rfl
theorem topTransferMended_main:Tryz.pinned.checked.prog.mainIs=some (true, "9bd40e97afd85f91163ea525d99619bd3d4dc301a18e589866391605f4d880fd".toList):=by kernel_rfl
theorem topTransferMended_goes:false=Rows.topTransferMendedRow.goesBy Tryz.pinned.checked.prog:=by kernel_rfl
theorem topTransferMended_looks:true=Tryz.pinned.checked.prog.looks []:=by kernel_rfl
theorem topTransferMended_plain:(Tryz.f5.params.toList.all fun u=> !Tryz.prog.wantsStandIn u)=true:=by kernel_rfl
end Go.Proofs.YtmailpnpjcpodaaGreatDoor
