/-
  Part of the proof that TopTransferMended holds.
-/
import Derived.Test.YtmailpnpjcpodaaGreatDoorT23
set_option linter.unusedVariables false
set_option linter.unusedSimpArgs false
set_option linter.unusedSectionVars false
namespace Go.Ev
open Go Go.Proofs
attribute [local irreducible] evFn evBody evRound
set_option maxRecDepth 20000
theorem eta_r8{l:List (List Int)}{n:Nat}(h8:l.all len8=true)(h:n<l.length):[(l.getD n []).getD 0 0,(l.getD n []).getD 1 0,(l.getD n []).getD 2 0,(l.getD n []).getD 3 0,(l.getD n []).getD 4 0,(l.getD n []).getD 5 0,(l.getD n []).getD 6 0,(l.getD n []).getD 7 0]=l.getD n []:=by
 obtain⟨xs,_,hx,_,he⟩:=row_some h h8
 rw[he];exact list8 hx
theorem lostF_step{c last:Int}{l:List Int}{i:Int}(h0:0≤i)(h:i<l.length):lostF c last (l.drop i.toNat)=bif withinG (l.getD i.toNat 0) 0 (c-1) then(bif decide (l.getD i.toNat 0>last) then lostF c (l.getD i.toNat 0) (l.drop (i+1).toNat) else 9) else 6:=by
 rw[drop_step 0 (by omega),show(i+1).toNat=i.toNat+1 by omega];rfl
theorem oklst:SpecOK Tryz.prog 130 lstS:=by
 refine specOK (n:=19) (m:=2) (lps:=[]) (.cons ok71 (.cons ok70 (.cons ok69 .nil))) Tryz.func130 (by kernel_rfl) (by kernel_rfl) (noLoops (by kernel_rfl)) fun args σ K h=> ?_
 unfold lstS at h
 split at h
 rotate_right
 ·exact h.elim
 rename_i x c last
 rw[exlst x c last K]
 obtain⟨⟨h1,h2⟩,h⟩:=h
 refine And.intro (by simp) ?_
 rw[wrap_id (n:=c-1) (by omega) (by omega)]
 show K (.one (.int .i64 (firstE [bif withinG x 0 (c-1) then 0 else 6,bif decide (x>last) then 0 else 9]))) _
 revert h
 generalize withinG x 0 (c-1)=a
 generalize decide (x>last)=b
 intro h
 cases a<;>cases b<;>exact h
theorem lokels_0:LoopOK Eels (lb Tryz.f59 0) [1,8,9,10] [4] elsL:=by
 refine loopOK (.cons oklst .nil) (noInner (by kernel_rfl)) (fun vs σ=>match vs,σ with
  |[.one (.func 130 [0,1]),.one (.data (.ints .i64 l)),.one (.int .i64 _),.one (.int .i64 i)],[.cells [.int .i64 _],.cells [.int .i64 _]]=>(l.length-i).toNat
  |_,_=>0) fun vs σ k h=> ?_
 unfold elsL at h
 split at h
 rotate_right
 ·exact h.elim
 ·rename_i l n i c last
  rw[exelsl0a l n i c last _]
  obtain⟨⟨h1,rfl,h3,h4,h5⟩,h⟩:=h
  by_cases hi:i<(l.length:Int)
  ·have hw:IntKind.i64.wrap (i+1)=i+1:=wrap_id (by omega) (by omega)
   have e0:l.getD (i.toNat+0) 0=l.getD i.toNat 0:=rfl
   have d1:decide (i<(l.length:Int))=true:=decide_eq_true hi
   have d2:decide (0≤i)=true:=decide_eq_true h3
   have d3:decide (i.toNat+0<l.length)=true:=decide_eq_true (by omega)
   rw[e0,hw]
   simp only[d1,d2,d3,Bool.and_self,cond_true]
   refine And.intro ⟨h4,h5⟩ ?_
   rw[lostF_step h3 hi] at h
   cases ha:withinG (l.getD i.toNat 0) 0 (c-1) with
   |false=>rw[ha] at h;exact h _
   |true=>
    rw[ha] at h
    simp only[cond_true] at h ⊢
    cases hb:decide (l.getD i.toNat 0>last) with
    |false=>rw[hb] at h;exact h _
    |true=>
     rw[hb] at h
     simp only[cond_true] at h ⊢
     exact⟨⟨⟨h1,rfl,by omega,h4,h5⟩,h⟩,by omega⟩
  ·rw[decide_eq_false hi]
   rw[List.drop_eq_nil_of_le (by omega)] at h
   exact h _
theorem okels:SpecOK Tryz.prog 59 elsS:=by
 refine specOK (n:=21) (m:=2) (lps:=[(2,.spec [1,8,9,10] [4] elsL)]) (.cons oklst .nil) Tryz.func59 (by kernel_rfl) (by kernel_rfl) (theLoops (n:=1) (by kernel_rfl) fun i hi=> ?_) fun args σ K h=> ?_
 ·match i,hi with
  |0,_=>exact loopHyp_of (key:=2) (by kernel_rfl) rfl lokels_0
 unfold elsS at h
 split at h
 rotate_right
 ·exact h.elim
 rename_i l c last
 rw[exels l c last K]
 obtain⟨⟨h1,h2,h3⟩,h⟩:=h
 refine And.intro ⟨h1,rfl,by omega,h2,h3⟩ ?_
 cases hc:lostF c last l==0 with
 |false=>exact fun y=>h y
 |true=>
  rw[eq_of_beq hc] at h
  exact fun y=>h y
theorem okloe:SpecOK Tryz.prog 112 loeS:=by
 refine specOK (n:=9) (m:=0) (lps:=[]) (.cons okels .nil) Tryz.func112 (by kernel_rfl) (by kernel_rfl) (noLoops (by kernel_rfl)) fun args σ K h=> ?_
 unfold loeS at h
 split at h
 rotate_right
 ·exact h.elim
 rename_i l c
 rw[exloe l c K]
 exact⟨h.1,fun _=>h.2⟩
theorem okrs:SpecOK Tryz.prog 111 rsS:=by
 refine specOK (n:=6) (m:=0) (lps:=[]) (.cons ok97 (.cons ok70 .nil)) Tryz.func111 (by kernel_rfl) (by kernel_rfl) (noLoops (by kernel_rfl)) fun args σ K h=> ?_
 unfold rsS at h
 split at h
 rotate_right
 ·exact h.elim
 rename_i n
 rw[exrs n K]
 exact h
theorem lokers_0:LoopOK Eers (lb Tryz.f59 0) [1,8,9,10] [4] ersL:=by
 refine loopOK (.cons okrs .nil) (noInner (by kernel_rfl)) (fun vs σ=>match vs,σ with
  |[.one (.func 111 []),.one (.data (.ints .i64 l)),.one (.int .i64 _),.one (.int .i64 i)],[]=>(l.length-i).toNat
  |_,_=>0) fun vs σ k h=> ?_
 unfold ersL at h
 split at h
 rotate_right
 ·exact h.elim
 ·rename_i l n i
  rw[exersl0a l n i _]
  obtain⟨⟨h1,rfl,h3⟩,h⟩:=h
  by_cases hi:i<(l.length:Int)
  ·have hw:IntKind.i64.wrap (i+1)=i+1:=wrap_id (by omega) (by omega)
   have e0:l.getD (i.toNat+0) 0=l.getD i.toNat 0:=rfl
   have d1:decide (i<(l.length:Int))=true:=decide_eq_true hi
   have d2:decide (0≤i)=true:=decide_eq_true h3
   have d3:decide (i.toNat+0<l.length)=true:=decide_eq_true (by omega)
   rw[e0,hw]
   simp only[d1,d2,d3,Bool.and_self,cond_true]
   rw[drop_step 0 (by omega:i.toNat<l.length),List.all_cons,show i.toNat+1=(i+1).toNat by omega] at h
   cases ha:resG (l.getD i.toNat 0) with
   |false=>rw[ha] at h;exact h
   |true=>rw[ha] at h;exact⟨⟨⟨h1,rfl,by omega⟩,h⟩,by omega⟩
  ·rw[decide_eq_false hi]
   rw[List.drop_eq_nil_of_le (by omega)] at h
   exact h
theorem okers:SpecOK Tryz.prog 59 ersS:=by
 refine specOK (n:=21) (m:=0) (lps:=[(2,.spec [1,8,9,10] [4] ersL)]) (.cons okrs .nil) Tryz.func59 (by kernel_rfl) (by kernel_rfl) (theLoops (n:=1) (by kernel_rfl) fun i hi=> ?_) fun args σ K h=> ?_
 ·match i,hi with
  |0,_=>exact loopHyp_of (key:=2) (by kernel_rfl) rfl lokers_0
 unfold ersS at h
 split at h
 rotate_right
 ·exact h.elim
 rename_i l
 rw[exers l K]
 obtain⟨h1,h⟩:=h
 refine And.intro ⟨h1,rfl,by omega⟩ ?_
 cases hs:l.all resG with
 |true=>rw[hs] at h;exact h
 |false=>rw[hs] at h;exact h
theorem okrsr:SpecOK Tryz.prog 110 rsrS:=by
 refine specOK (n:=5) (m:=0) (lps:=[]) (.cons okers .nil) Tryz.func110 (by kernel_rfl) (by kernel_rfl) (noLoops (by kernel_rfl)) fun args σ K h=> ?_
 unfold rsrS at h
 split at h
 rotate_right
 ·exact h.elim
 rename_i x0 x1 x2 x3 x4 x5 x6 x7
 rw[exrsr x0 x1 x2 x3 x4 x5 x6 x7 K]
 exact⟨by simp,h⟩
theorem keptB_step{ws:List Int}{l:List (List Int)}{i:Int}(h0:0≤i)(h:i<l.length):keptB ws i (l.drop i.toNat)=((memB i ws||okRow (l.getD i.toNat []))&&keptB ws (i+1) (l.drop (i+1).toNat)):=by
 rw[drop_step [] (by omega:i.toNat<l.length),show(i+1).toNat=i.toNat+1 by omega];rfl
theorem keptR_step{ws:List Int}{l:List (List Int)}{i:Int}(h0:0≤i)(h:i<l.length):keptR ws i (l.drop i.toNat)=((memB i ws||resRow (l.getD i.toNat []))&&keptR ws (i+1) (l.drop (i+1).toNat)):=by
 rw[drop_step [] (by omega:i.toNat<l.length),show(i+1).toNat=i.toNat+1 by omega];rfl
theorem lokkep_0:LoopOK Ekep (lb Tryz.f113 0) [1,2,10,11,12] [6] kepL:=by
 refine loopOK (.cons ok113 (.cons ok82 (.cons okrsr .nil))) (noInner (by kernel_rfl)) (fun vs σ=>match vs,σ with
  |[.one (.data (.ints .i64 _)),.one (.func 65 []),.one (.data (.mat .i64 8 l)),.one (.int .i64 _),.one (.int .i64 i)],[]=>(l.length-i).toNat
  |[.one (.data (.ints .i64 _)),.one (.func 110 []),.one (.data (.mat .i64 8 l)),.one (.int .i64 _),.one (.int .i64 i)],[]=>(l.length-i).toNat
  |_,_=>0) fun vs σ k h=> ?_
 unfold kepL at h
 split at h
 rotate_right
 ·exact h.elim
 ·rename_i ws l n i
  rw[exkepl0a ws l n i _]
  obtain⟨⟨h1,h2,rfl,h4,h5⟩,h⟩:=h
  by_cases hi:i<(l.length:Int)
  ·have hw:IntKind.i64.wrap (i+1)=i+1:=wrap_id (by omega) (by omega)
   have d1:decide (i<(l.length:Int))=true:=decide_eq_true hi
   have d2:decide (0≤i)=true:=decide_eq_true h4
   have d3:decide (i.toNat<l.length)=true:=decide_eq_true (by omega)
   rw[eta_r8 h5 (by omega),hw]
   simp only[d1,d2,d3,show decide (7<8)=true by decide,Bool.and_self,cond_true]
   refine And.intro (by omega) ?_
   rw[keptB_step h4 hi] at h
   cases ha:memB i ws with
   |true=>
    rw[ha] at h
    exact⟨⟨⟨h1,h2,rfl,by omega,h5⟩,h⟩,by omega⟩
   |false=>
    rw[ha] at h
    simp only[cond_false]
    unfold okRow at h
    cases hb:(l.getD i.toNat []).all sampleG with
    |true=>rw[hb] at h;exact⟨⟨⟨h1,h2,rfl,by omega,h5⟩,h⟩,by omega⟩
    |false=>rw[hb] at h;exact h
  ·rw[decide_eq_false hi]
   rw[List.drop_eq_nil_of_le (by omega)] at h
   exact h
 ·rename_i ws l n i
  rw[exkepl0b ws l n i _]
  obtain⟨⟨h1,h2,rfl,h4,h5⟩,h⟩:=h
  by_cases hi:i<(l.length:Int)
  ·have hw:IntKind.i64.wrap (i+1)=i+1:=wrap_id (by omega) (by omega)
   have d1:decide (i<(l.length:Int))=true:=decide_eq_true hi
   have d2:decide (0≤i)=true:=decide_eq_true h4
   have d3:decide (i.toNat<l.length)=true:=decide_eq_true (by omega)
   rw[eta_r8 h5 (by omega),hw]
   simp only[d1,d2,d3,show decide (7<8)=true by decide,Bool.and_self,cond_true]
   refine And.intro (by omega) ?_
   rw[keptR_step h4 hi] at h
   cases ha:memB i ws with
   |true=>
    rw[ha] at h
    exact⟨⟨⟨h1,h2,rfl,by omega,h5⟩,h⟩,by omega⟩
   |false=>
    rw[ha] at h
    simp only[cond_false]
    cases hb:resRow (l.getD i.toNat []) with
    |true=>rw[hb] at h;exact⟨⟨⟨h1,h2,rfl,by omega,h5⟩,h⟩,by omega⟩
    |false=>rw[hb] at h;exact h
  ·rw[decide_eq_false hi]
   rw[List.drop_eq_nil_of_le (by omega)] at h
   exact h
theorem okkep:SpecOK Tryz.prog 113 kepS:=by
 refine specOK (n:=27) (m:=0) (lps:=[(2,.spec [1,2,10,11,12] [6] kepL)]) (.cons ok113 (.cons ok82 (.cons okrsr .nil))) Tryz.func113 (by kernel_rfl) (by kernel_rfl) (theLoops (n:=1) (by kernel_rfl) fun i hi=> ?_) fun args σ K h=> ?_
 ·match i,hi with
  |0,_=>exact loopHyp_of (key:=2) (by kernel_rfl) rfl lokkep_0
 unfold kepS at h
 split at h
 rotate_right
 ·exact h.elim
 ·rename_i l ws
  rw[exkep_0 l ws K]
  obtain⟨⟨h1,h2,h3⟩,h⟩:=h
  refine And.intro ⟨h1,h2,rfl,by omega,h3⟩ ?_
  cases hs:keptB ws 0 l with
  |true=>rw[hs] at h;exact h
  |false=>rw[hs] at h;exact h
 ·rename_i l ws
  rw[exkep_1 l ws K]
  obtain⟨⟨h1,h2,h3⟩,h⟩:=h
  refine And.intro ⟨h1,h2,rfl,by omega,h3⟩ ?_
  cases hs:keptR ws 0 l with
  |true=>rw[hs] at h;exact h
  |false=>rw[hs] at h;exact h
theorem okgro:SpecOK Tryz.prog 78 groS:=by
 refine specOK (n:=51) (m:=0) (lps:=[]) (.cons ok70 (.cons okloe (.cons okkep (.cons ok69 .nil)))) Tryz.func78 (by kernel_rfl) (by kernel_rfl) (noLoops (by kernel_rfl)) fun args σ K h=> ?_
 unfold groS at h
 split at h
 rotate_right
 ·exact h.elim
 rename_i D P L Q
 rw[exgro D P L Q K]
 obtain⟨⟨h1,h2,h3,h4,h5,h6⟩,h⟩:=h
 have w1:L.length≤1000000∧(0:Int)≤(D.length:Int)∧(D.length:Int)≤1000000:=by omega
 have w2:Q.length≤1000000∧(0:Int)≤(P.length:Int)∧(P.length:Int)≤1000000:=by omega
 have w3:D.length≤1000000∧L.length≤1000000∧D.all len8=true:=⟨by omega,by omega,h5⟩
 have w4:P.length≤1000000∧Q.length≤1000000∧P.all len8=true:=⟨by omega,by omega,h6⟩
 unfold groE at h
 cases ha:decide ((D.length:Int)>0)<;>cases hb:decide ((D.length:Int)≤12)<;>rw[ha,hb] at h<;>exact⟨w1,w2,w3,w4,by simp,h⟩
theorem okclo:SpecOK Tryz.prog 80 cloS:=by
 refine specOK (n:=8) (m:=0) (lps:=[]) .nil Tryz.func80 (by kernel_rfl) (by kernel_rfl) (noLoops (by kernel_rfl)) fun args σ K h=> ?_
 unfold cloS at h
 split at h
 rotate_right
 ·exact h.elim
 rename_i l
 rw[exclo l K]
 obtain⟨⟨h1,h2⟩,h⟩:=h
 rw[decide_eq_false (by omega),cond_false]
 unfold exclo_x0
 rw[decide_eq_true (by omega)]
 exact h
theorem okcgr:SpecOK Tryz.prog 31 cgrS:=by
 refine specOK (n:=16) (m:=0) (lps:=[]) (.cons ok41 (.cons ok35 .nil)) Tryz.func31 (by kernel_rfl) (by kernel_rfl) (noLoops (by kernel_rfl)) fun args σ K h=> ?_
 unfold cgrS at h
 split at h
 rotate_right
 ·exact h.elim
 rename_i D P L Q
 rw[excgr D P L Q K]
 obtain⟨⟨g1,g2,g3,g4,g5,g6⟩,h⟩:=h
 exact⟨by omega,by omega,by omega,by omega,h⟩
end Go.Ev
namespace Go.Ev
open Go Go.Proofs
set_option maxRecDepth 20000
def isInv(a s:Int):Prop:=s=invG a
def scR(R:List Int)(s:Int):List Int:=R.map fun x=>modG (x*s)
def elR:List Int→List Int→Int→List Int
 |p::Pv,r::R,b=>modG (r-modG (b*p))::elR Pv R b
 |_,_,_=>[]
def stp(c:Nat)(rows:List (List Int)):List (List Int):= (List.range rows.length).map fun r=>bif r==c then scR (rows.getD c []) (invG ((rows.getD c []).getD c 0)) else elR (scR (rows.getD c []) (invG ((rows.getD c []).getD c 0))) (rows.getD r []) ((rows.getD r []).getD c 0)
def solF:Nat→Nat→List (List Int)→List (List Int)
 |0,_,rows=>rows
 |f+1,c,rows=>solF f (c+1) (stp c rows)
def solV(rows:List (List Int)):List Int:=(solF rows.length 0 rows).map fun R=>R.getD rows.length 0
def pivF:Nat→Nat→List (List Int)→Prop
 |0,_,_=>True
 |f+1,c,rows=>(rows.getD c []).getD c 0≠0∧pivF f (c+1) (stp c rows)
def okSol(rows:List (List Int)):Prop:= ∀R ∈ rows,R.length=rows.length+1∧resRow R=true
def okRw(n:Nat)(R:List Int):Prop:=R.length=n+1∧resRow R=true
def scRW(R:List Int)(s:Int):List Int:=R.map fun x=>modG (IntKind.i64.wrap (x*s))
def elRW:List Int→List Int→Int→List Int
 |p::Pv,r::R,b=>modG (IntKind.i64.wrap (r-modG (IntKind.i64.wrap (b*p))))::elRW Pv R b
 |_,_,_=>[]
def stpW(c:Nat)(rows:List (List Int)):List (List Int):= (List.range rows.length).map fun r=>bif r==c then scRW (rows.getD c []) (invG ((rows.getD c []).getD c 0)) else elRW (scRW (rows.getD c []) (invG ((rows.getD c []).getD c 0))) (rows.getD r []) ((rows.getD r []).getD c 0)
def slA1:LSpec:=fun vs σ k=>match vs,σ with
 |[.one (.own 0 1),.one (.int .i64 n),.one (.int .i64 c)],[.cells [.own 1 1],.row 128 (.ints .i64 R0)]=>(n=1∧okSol [R0]∧0≤c∧c≤1)∧k (.exit 0) [] [.cells [.own 1 1],.row 128 (.ints .i64 ((solF (1-c.toNat) c.toNat [R0]).getD 0 []))]
 |_,_=>False
def slS1:Spec:=fun args σ K=>match args,σ with
 |[.one (.own 0 1)],[.cells [.own 1 1],.row 128 (.ints .i64 R0)]=>okSol [R0]∧ ∀X0:List Int,K (.one (.own 2 1)) [.cells [.own 1 1],.row 128 (.ints .i64 X0),.row 128 (.ints .i64 (solV [R0]))]
 |_,_=>False
def slA2:LSpec:=fun vs σ k=>match vs,σ with
 |[.one (.own 0 1),.one (.int .i64 n),.one (.int .i64 c)],[.cells [.own 1 1,.own 2 1],.row 128 (.ints .i64 R0),.row 128 (.ints .i64 R1)]=>(n=2∧okSol [R0,R1]∧0≤c∧c≤2)∧k (.exit 0) [] [.cells [.own 1 1,.own 2 1],.row 128 (.ints .i64 ((solF (2-c.toNat) c.toNat [R0,R1]).getD 0 [])),.row 128 (.ints .i64 ((solF (2-c.toNat) c.toNat [R0,R1]).getD 1 []))]
 |_,_=>False
def slS2:Spec:=fun args σ K=>match args,σ with
 |[.one (.own 0 1)],[.cells [.own 1 1,.own 2 1],.row 128 (.ints .i64 R0),.row 128 (.ints .i64 R1)]=>okSol [R0,R1]∧ ∀X0 X1:List Int,K (.one (.own 3 1)) [.cells [.own 1 1,.own 2 1],.row 128 (.ints .i64 X0),.row 128 (.ints .i64 X1),.row 128 (.ints .i64 (solV [R0,R1]))]
 |_,_=>False
def slA3:LSpec:=fun vs σ k=>match vs,σ with
 |[.one (.own 0 1),.one (.int .i64 n),.one (.int .i64 c)],[.cells [.own 1 1,.own 2 1,.own 3 1],.row 128 (.ints .i64 R0),.row 128 (.ints .i64 R1),.row 128 (.ints .i64 R2)]=>(n=3∧okSol [R0,R1,R2]∧0≤c∧c≤3)∧k (.exit 0) [] [.cells [.own 1 1,.own 2 1,.own 3 1],.row 128 (.ints .i64 ((solF (3-c.toNat) c.toNat [R0,R1,R2]).getD 0 [])),.row 128 (.ints .i64 ((solF (3-c.toNat) c.toNat [R0,R1,R2]).getD 1 [])),.row 128 (.ints .i64 ((solF (3-c.toNat) c.toNat [R0,R1,R2]).getD 2 []))]
 |_,_=>False
def slS3:Spec:=fun args σ K=>match args,σ with
 |[.one (.own 0 1)],[.cells [.own 1 1,.own 2 1,.own 3 1],.row 128 (.ints .i64 R0),.row 128 (.ints .i64 R1),.row 128 (.ints .i64 R2)]=>okSol [R0,R1,R2]∧ ∀X0 X1 X2:List Int,K (.one (.own 4 1)) [.cells [.own 1 1,.own 2 1,.own 3 1],.row 128 (.ints .i64 X0),.row 128 (.ints .i64 X1),.row 128 (.ints .i64 X2),.row 128 (.ints .i64 (solV [R0,R1,R2]))]
 |_,_=>False
def slA4:LSpec:=fun vs σ k=>match vs,σ with
 |[.one (.own 0 1),.one (.int .i64 n),.one (.int .i64 c)],[.cells [.own 1 1,.own 2 1,.own 3 1,.own 4 1],.row 128 (.ints .i64 R0),.row 128 (.ints .i64 R1),.row 128 (.ints .i64 R2),.row 128 (.ints .i64 R3)]=>(n=4∧okSol [R0,R1,R2,R3]∧0≤c∧c≤4)∧k (.exit 0) [] [.cells [.own 1 1,.own 2 1,.own 3 1,.own 4 1],.row 128 (.ints .i64 ((solF (4-c.toNat) c.toNat [R0,R1,R2,R3]).getD 0 [])),.row 128 (.ints .i64 ((solF (4-c.toNat) c.toNat [R0,R1,R2,R3]).getD 1 [])),.row 128 (.ints .i64 ((solF (4-c.toNat) c.toNat [R0,R1,R2,R3]).getD 2 [])),.row 128 (.ints .i64 ((solF (4-c.toNat) c.toNat [R0,R1,R2,R3]).getD 3 []))]
 |_,_=>False
def slS4:Spec:=fun args σ K=>match args,σ with
 |[.one (.own 0 1)],[.cells [.own 1 1,.own 2 1,.own 3 1,.own 4 1],.row 128 (.ints .i64 R0),.row 128 (.ints .i64 R1),.row 128 (.ints .i64 R2),.row 128 (.ints .i64 R3)]=>okSol [R0,R1,R2,R3]∧ ∀X0 X1 X2 X3:List Int,K (.one (.own 5 1)) [.cells [.own 1 1,.own 2 1,.own 3 1,.own 4 1],.row 128 (.ints .i64 X0),.row 128 (.ints .i64 X1),.row 128 (.ints .i64 X2),.row 128 (.ints .i64 X3),.row 128 (.ints .i64 (solV [R0,R1,R2,R3]))]
 |_,_=>False
def minusS:Spec:=fun args σ K=>match args,σ with
 |[.one (.int .i64 a),.one (.int .i64 b)],[]=>(0≤a∧a<65537∧0≤b∧b<65537)∧K (.one (.int .i64 (modG (a-b)))) []
 |_,_=>False
def inv2S:Spec:=fun args σ K=>match args,σ with
 |[.one (.int .i64 a)],[]=>(0≤a∧a<65537)∧ ∀s,isInv a s→K (.one (.int .i64 s)) []
 |_,_=>False
def timesW:Spec:=fun args σ K=>match args,σ with
 |[.one (.int .i64 a),.one (.int .i64 b)],[]=>K (.one (.int .i64 (modG (IntKind.i64.wrap (a*b))))) []
 |_,_=>False
def minusW:Spec:=fun args σ K=>match args,σ with
 |[.one (.int .i64 a),.one (.int .i64 b)],[]=>K (.one (.int .i64 (modG (IntKind.i64.wrap (a-b))))) []
 |_,_=>False
noncomputable abbrev Etmw:Env:=envOf Tryz.prog [(82,moduloS)] [] 9 0
noncomputable abbrev Emnw:Env:=envOf Tryz.prog [(82,moduloS)] [] 9 0
noncomputable abbrev Emin:Env:=envOf Tryz.prog [(82,moduloS)] [] 9 0
noncomputable abbrev Esl1:Env:=envOf Tryz.prog [(87,inv2S),(107,timesW),(83,minusW)] [(3,.frm 2 [0,15,16] [] slA1),(8,.unroll 3),(13,.unroll 2),(18,.unroll 3),(25,.unroll 2)] 95 2
noncomputable abbrev Esl1F2:Env:=envOf Tryz.prog [(87,inv2S),(107,timesW),(83,minusW)] [(3,.frm 2 [0,15,16] [] slA1),(8,.unroll 3),(13,.unroll 2),(18,.unroll 3),(25,.unroll 2)] 95 2
noncomputable abbrev Esl2:Env:=envOf Tryz.prog [(87,inv2S),(107,timesW),(83,minusW)] [(3,.frm 3 [0,15,16] [] slA2),(8,.unroll 4),(13,.unroll 3),(18,.unroll 4),(25,.unroll 3)] 95 3
noncomputable abbrev Esl2F3:Env:=envOf Tryz.prog [(87,inv2S),(107,timesW),(83,minusW)] [(3,.frm 3 [0,15,16] [] slA2),(8,.unroll 4),(13,.unroll 3),(18,.unroll 4),(25,.unroll 3)] 95 3
noncomputable abbrev Esl3:Env:=envOf Tryz.prog [(87,inv2S),(107,timesW),(83,minusW)] [(3,.frm 4 [0,15,16] [] slA3),(8,.unroll 5),(13,.unroll 4),(18,.unroll 5),(25,.unroll 4)] 95 4
noncomputable abbrev Esl3F4:Env:=envOf Tryz.prog [(87,inv2S),(107,timesW),(83,minusW)] [(3,.frm 4 [0,15,16] [] slA3),(8,.unroll 5),(13,.unroll 4),(18,.unroll 5),(25,.unroll 4)] 95 4
noncomputable abbrev Esl4:Env:=envOf Tryz.prog [(87,inv2S),(107,timesW),(83,minusW)] [(3,.frm 5 [0,15,16] [] slA4),(8,.unroll 6),(13,.unroll 5),(18,.unroll 6),(25,.unroll 5)] 95 5
noncomputable abbrev Esl4F5:Env:=envOf Tryz.prog [(87,inv2S),(107,timesW),(83,minusW)] [(3,.frm 5 [0,15,16] [] slA4),(8,.unroll 6),(13,.unroll 5),(18,.unroll 6),(25,.unroll 5)] 95 5
end Go.Ev
namespace Go.Ev
open Go Go.Proofs
set_option maxRecDepth 100000
theorem exsl1c0(r00 r01:Int)(K:Ex→List AV→List Blk→Prop):evBody Esl1F2 (lb Tryz.f84 0) [0,15,16] [] [.one (.own 0 1),.one (.int .i64 1),.one (.int .i64 0)] [.cells [.own 1 1],.row 128 (.ints .i64 [r00,r01])] K=((0≤r00∧r00<65537)∧ ∀(s:Int),isInv r00 s→K .normal [.one (.own 0 1),.one (.int .i64 1),.one (.int .i64 1)] [Blk.cells [SV.own 1 1],Blk.row 128 (Row.ints .i64 [modG (IntKind.i64.wrap (r00*s)),modG (IntKind.i64.wrap (r01*s))])]):=by kernel_rfl
theorem exsl1c1(R0:List Int)(K:Ex→List AV→List Blk→Prop):evBody Esl1F2 (lb Tryz.f84 0) [0,15,16] [] [.one (.own 0 1),.one (.int .i64 1),.one (.int .i64 1)] [.cells [.own 1 1],.row 128 (.ints .i64 R0)] K=(K (.exit 0) [] [Blk.cells [SV.own 1 1],Blk.row 128 (Row.ints .i64 R0)]):=by kernel_rfl
theorem exsl2c0(r00 r01 r02 r10 r11 r12:Int)(K:Ex→List AV→List Blk→Prop):evBody Esl2F3 (lb Tryz.f84 0) [0,15,16] [] [.one (.own 0 1),.one (.int .i64 2),.one (.int .i64 0)] [.cells [.own 1 1,.own 2 1],.row 128 (.ints .i64 [r00,r01,r02]),.row 128 (.ints .i64 [r10,r11,r12])] K=((0≤r00∧r00<65537)∧ ∀(s:Int),isInv r00 s→K .normal [.one (.own 0 1),.one (.int .i64 2),.one (.int .i64 1)] [Blk.cells [SV.own 1 1,SV.own 2 1],Blk.row 128 (Row.ints .i64 [modG (IntKind.i64.wrap (r00*s)),modG (IntKind.i64.wrap (r01*s)),modG (IntKind.i64.wrap (r02*s))]),Blk.row 128 (Row.ints .i64 [modG (IntKind.i64.wrap (r10-modG (IntKind.i64.wrap (r10*modG (IntKind.i64.wrap (r00*s)))))),modG (IntKind.i64.wrap (r11-modG (IntKind.i64.wrap (r10*modG (IntKind.i64.wrap (r01*s)))))),modG (IntKind.i64.wrap (r12-modG (IntKind.i64.wrap (r10*modG (IntKind.i64.wrap (r02*s))))))])]):=by kernel_rfl
theorem exsl2c1(r00 r01 r02 r10 r11 r12:Int)(K:Ex→List AV→List Blk→Prop):evBody Esl2F3 (lb Tryz.f84 0) [0,15,16] [] [.one (.own 0 1),.one (.int .i64 2),.one (.int .i64 1)] [.cells [.own 1 1,.own 2 1],.row 128 (.ints .i64 [r00,r01,r02]),.row 128 (.ints .i64 [r10,r11,r12])] K=((0≤r11∧r11<65537)∧ ∀(s:Int),isInv r11 s→K .normal [.one (.own 0 1),.one (.int .i64 2),.one (.int .i64 2)] [Blk.cells [SV.own 1 1,SV.own 2 1],Blk.row 128 (Row.ints .i64 [modG (IntKind.i64.wrap (r00-modG (IntKind.i64.wrap (r01*modG (IntKind.i64.wrap (r10*s)))))),modG (IntKind.i64.wrap (r01-modG (IntKind.i64.wrap (r01*modG (IntKind.i64.wrap (r11*s)))))),modG (IntKind.i64.wrap (r02-modG (IntKind.i64.wrap (r01*modG (IntKind.i64.wrap (r12*s))))))]),Blk.row 128 (Row.ints .i64 [modG (IntKind.i64.wrap (r10*s)),modG (IntKind.i64.wrap (r11*s)),modG (IntKind.i64.wrap (r12*s))])]):=by kernel_rfl
theorem exsl2c2(R0 R1:List Int)(K:Ex→List AV→List Blk→Prop):evBody Esl2F3 (lb Tryz.f84 0) [0,15,16] [] [.one (.own 0 1),.one (.int .i64 2),.one (.int .i64 2)] [.cells [.own 1 1,.own 2 1],.row 128 (.ints .i64 R0),.row 128 (.ints .i64 R1)] K=(K (.exit 0) [] [Blk.cells [SV.own 1 1,SV.own 2 1],Blk.row 128 (Row.ints .i64 R0),Blk.row 128 (Row.ints .i64 R1)]):=by kernel_rfl
theorem exsl3c0(r00 r01 r02 r03 r10 r11 r12 r13 r20 r21 r22 r23:Int)(K:Ex→List AV→List Blk→Prop):evBody Esl3F4 (lb Tryz.f84 0) [0,15,16] [] [.one (.own 0 1),.one (.int .i64 3),.one (.int .i64 0)] [.cells [.own 1 1,.own 2 1,.own 3 1],.row 128 (.ints .i64 [r00,r01,r02,r03]),.row 128 (.ints .i64 [r10,r11,r12,r13]),.row 128 (.ints .i64 [r20,r21,r22,r23])] K=((0≤r00∧r00<65537)∧ ∀(s:Int),isInv r00 s→K .normal [.one (.own 0 1),.one (.int .i64 3),.one (.int .i64 1)] [Blk.cells [SV.own 1 1,SV.own 2 1,SV.own 3 1],Blk.row 128 (Row.ints .i64 [modG (IntKind.i64.wrap (r00*s)),modG (IntKind.i64.wrap (r01*s)),modG (IntKind.i64.wrap (r02*s)),modG (IntKind.i64.wrap (r03*s))]),Blk.row 128 (Row.ints .i64 [modG (IntKind.i64.wrap (r10-modG (IntKind.i64.wrap (r10*modG (IntKind.i64.wrap (r00*s)))))),modG (IntKind.i64.wrap (r11-modG (IntKind.i64.wrap (r10*modG (IntKind.i64.wrap (r01*s)))))),modG (IntKind.i64.wrap (r12-modG (IntKind.i64.wrap (r10*modG (IntKind.i64.wrap (r02*s)))))),modG (IntKind.i64.wrap (r13-modG (IntKind.i64.wrap (r10*modG (IntKind.i64.wrap (r03*s))))))]),Blk.row 128 (Row.ints .i64 [modG (IntKind.i64.wrap (r20-modG (IntKind.i64.wrap (r20*modG (IntKind.i64.wrap (r00*s)))))),modG (IntKind.i64.wrap (r21-modG (IntKind.i64.wrap (r20*modG (IntKind.i64.wrap (r01*s)))))),modG (IntKind.i64.wrap (r22-modG (IntKind.i64.wrap (r20*modG (IntKind.i64.wrap (r02*s)))))),modG (IntKind.i64.wrap (r23-modG (IntKind.i64.wrap (r20*modG (IntKind.i64.wrap (r03*s))))))])]):=by kernel_rfl
theorem exsl3c1(r00 r01 r02 r03 r10 r11 r12 r13 r20 r21 r22 r23:Int)(K:Ex→List AV→List Blk→Prop):evBody Esl3F4 (lb Tryz.f84 0) [0,15,16] [] [.one (.own 0 1),.one (.int .i64 3),.one (.int .i64 1)] [.cells [.own 1 1,.own 2 1,.own 3 1],.row 128 (.ints .i64 [r00,r01,r02,r03]),.row 128 (.ints .i64 [r10,r11,r12,r13]),.row 128 (.ints .i64 [r20,r21,r22,r23])] K=((0≤r11∧r11<65537)∧ ∀(s:Int),isInv r11 s→K .normal [.one (.own 0 1),.one (.int .i64 3),.one (.int .i64 2)] [Blk.cells [SV.own 1 1,SV.own 2 1,SV.own 3 1],Blk.row 128 (Row.ints .i64 [modG (IntKind.i64.wrap (r00-modG (IntKind.i64.wrap (r01*modG (IntKind.i64.wrap (r10*s)))))),modG (IntKind.i64.wrap (r01-modG (IntKind.i64.wrap (r01*modG (IntKind.i64.wrap (r11*s)))))),modG (IntKind.i64.wrap (r02-modG (IntKind.i64.wrap (r01*modG (IntKind.i64.wrap (r12*s)))))),modG (IntKind.i64.wrap (r03-modG (IntKind.i64.wrap (r01*modG (IntKind.i64.wrap (r13*s))))))]),Blk.row 128 (Row.ints .i64 [modG (IntKind.i64.wrap (r10*s)),modG (IntKind.i64.wrap (r11*s)),modG (IntKind.i64.wrap (r12*s)),modG (IntKind.i64.wrap (r13*s))]),Blk.row 128 (Row.ints .i64 [modG (IntKind.i64.wrap (r20-modG (IntKind.i64.wrap (r21*modG (IntKind.i64.wrap (r10*s)))))),modG (IntKind.i64.wrap (r21-modG (IntKind.i64.wrap (r21*modG (IntKind.i64.wrap (r11*s)))))),modG (IntKind.i64.wrap (r22-modG (IntKind.i64.wrap (r21*modG (IntKind.i64.wrap (r12*s)))))),modG (IntKind.i64.wrap (r23-modG (IntKind.i64.wrap (r21*modG (IntKind.i64.wrap (r13*s))))))])]):=by kernel_rfl
theorem exsl3c2(r00 r01 r02 r03 r10 r11 r12 r13 r20 r21 r22 r23:Int)(K:Ex→List AV→List Blk→Prop):evBody Esl3F4 (lb Tryz.f84 0) [0,15,16] [] [.one (.own 0 1),.one (.int .i64 3),.one (.int .i64 2)] [.cells [.own 1 1,.own 2 1,.own 3 1],.row 128 (.ints .i64 [r00,r01,r02,r03]),.row 128 (.ints .i64 [r10,r11,r12,r13]),.row 128 (.ints .i64 [r20,r21,r22,r23])] K=((0≤r22∧r22<65537)∧ ∀(s:Int),isInv r22 s→K .normal [.one (.own 0 1),.one (.int .i64 3),.one (.int .i64 3)] [Blk.cells [SV.own 1 1,SV.own 2 1,SV.own 3 1],Blk.row 128 (Row.ints .i64 [modG (IntKind.i64.wrap (r00-modG (IntKind.i64.wrap (r02*modG (IntKind.i64.wrap (r20*s)))))),modG (IntKind.i64.wrap (r01-modG (IntKind.i64.wrap (r02*modG (IntKind.i64.wrap (r21*s)))))),modG (IntKind.i64.wrap (r02-modG (IntKind.i64.wrap (r02*modG (IntKind.i64.wrap (r22*s)))))),modG (IntKind.i64.wrap (r03-modG (IntKind.i64.wrap (r02*modG (IntKind.i64.wrap (r23*s))))))]),Blk.row 128 (Row.ints .i64 [modG (IntKind.i64.wrap (r10-modG (IntKind.i64.wrap (r12*modG (IntKind.i64.wrap (r20*s)))))),modG (IntKind.i64.wrap (r11-modG (IntKind.i64.wrap (r12*modG (IntKind.i64.wrap (r21*s)))))),modG (IntKind.i64.wrap (r12-modG (IntKind.i64.wrap (r12*modG (IntKind.i64.wrap (r22*s)))))),modG (IntKind.i64.wrap (r13-modG (IntKind.i64.wrap (r12*modG (IntKind.i64.wrap (r23*s))))))]),Blk.row 128 (Row.ints .i64 [modG (IntKind.i64.wrap (r20*s)),modG (IntKind.i64.wrap (r21*s)),modG (IntKind.i64.wrap (r22*s)),modG (IntKind.i64.wrap (r23*s))])]):=by kernel_rfl
theorem exsl3c3(R0 R1 R2:List Int)(K:Ex→List AV→List Blk→Prop):evBody Esl3F4 (lb Tryz.f84 0) [0,15,16] [] [.one (.own 0 1),.one (.int .i64 3),.one (.int .i64 3)] [.cells [.own 1 1,.own 2 1,.own 3 1],.row 128 (.ints .i64 R0),.row 128 (.ints .i64 R1),.row 128 (.ints .i64 R2)] K=(K (.exit 0) [] [Blk.cells [SV.own 1 1,SV.own 2 1,SV.own 3 1],Blk.row 128 (Row.ints .i64 R0),Blk.row 128 (Row.ints .i64 R1),Blk.row 128 (Row.ints .i64 R2)]):=by kernel_rfl
theorem exsl4c0(r00 r01 r02 r03 r04 r10 r11 r12 r13 r14 r20 r21 r22 r23 r24 r30 r31 r32 r33 r34:Int)(K:Ex→List AV→List Blk→Prop):evBody Esl4F5 (lb Tryz.f84 0) [0,15,16] [] [.one (.own 0 1),.one (.int .i64 4),.one (.int .i64 0)] [.cells [.own 1 1,.own 2 1,.own 3 1,.own 4 1],.row 128 (.ints .i64 [r00,r01,r02,r03,r04]),.row 128 (.ints .i64 [r10,r11,r12,r13,r14]),.row 128 (.ints .i64 [r20,r21,r22,r23,r24]),.row 128 (.ints .i64 [r30,r31,r32,r33,r34])] K=((0≤r00∧r00<65537)∧ ∀(s:Int),isInv r00 s→K .normal [.one (.own 0 1),.one (.int .i64 4),.one (.int .i64 1)] [Blk.cells [SV.own 1 1,SV.own 2 1,SV.own 3 1,SV.own 4 1],Blk.row 128 (Row.ints .i64 [modG (IntKind.i64.wrap (r00*s)),modG (IntKind.i64.wrap (r01*s)),modG (IntKind.i64.wrap (r02*s)),modG (IntKind.i64.wrap (r03*s)),modG (IntKind.i64.wrap (r04*s))]),Blk.row 128 (Row.ints .i64 [modG (IntKind.i64.wrap (r10-modG (IntKind.i64.wrap (r10*modG (IntKind.i64.wrap (r00*s)))))),modG (IntKind.i64.wrap (r11-modG (IntKind.i64.wrap (r10*modG (IntKind.i64.wrap (r01*s)))))),modG (IntKind.i64.wrap (r12-modG (IntKind.i64.wrap (r10*modG (IntKind.i64.wrap (r02*s)))))),modG (IntKind.i64.wrap (r13-modG (IntKind.i64.wrap (r10*modG (IntKind.i64.wrap (r03*s)))))),modG (IntKind.i64.wrap (r14-modG (IntKind.i64.wrap (r10*modG (IntKind.i64.wrap (r04*s))))))]),Blk.row 128 (Row.ints .i64 [modG (IntKind.i64.wrap (r20-modG (IntKind.i64.wrap (r20*modG (IntKind.i64.wrap (r00*s)))))),modG (IntKind.i64.wrap (r21-modG (IntKind.i64.wrap (r20*modG (IntKind.i64.wrap (r01*s)))))),modG (IntKind.i64.wrap (r22-modG (IntKind.i64.wrap (r20*modG (IntKind.i64.wrap (r02*s)))))),modG (IntKind.i64.wrap (r23-modG (IntKind.i64.wrap (r20*modG (IntKind.i64.wrap (r03*s)))))),modG (IntKind.i64.wrap (r24-modG (IntKind.i64.wrap (r20*modG (IntKind.i64.wrap (r04*s))))))]),Blk.row 128 (Row.ints .i64 [modG (IntKind.i64.wrap (r30-modG (IntKind.i64.wrap (r30*modG (IntKind.i64.wrap (r00*s)))))),modG (IntKind.i64.wrap (r31-modG (IntKind.i64.wrap (r30*modG (IntKind.i64.wrap (r01*s)))))),modG (IntKind.i64.wrap (r32-modG (IntKind.i64.wrap (r30*modG (IntKind.i64.wrap (r02*s)))))),modG (IntKind.i64.wrap (r33-modG (IntKind.i64.wrap (r30*modG (IntKind.i64.wrap (r03*s)))))),modG (IntKind.i64.wrap (r34-modG (IntKind.i64.wrap (r30*modG (IntKind.i64.wrap (r04*s))))))])]):=by kernel_rfl
theorem exsl4c1(r00 r01 r02 r03 r04 r10 r11 r12 r13 r14 r20 r21 r22 r23 r24 r30 r31 r32 r33 r34:Int)(K:Ex→List AV→List Blk→Prop):evBody Esl4F5 (lb Tryz.f84 0) [0,15,16] [] [.one (.own 0 1),.one (.int .i64 4),.one (.int .i64 1)] [.cells [.own 1 1,.own 2 1,.own 3 1,.own 4 1],.row 128 (.ints .i64 [r00,r01,r02,r03,r04]),.row 128 (.ints .i64 [r10,r11,r12,r13,r14]),.row 128 (.ints .i64 [r20,r21,r22,r23,r24]),.row 128 (.ints .i64 [r30,r31,r32,r33,r34])] K=((0≤r11∧r11<65537)∧ ∀(s:Int),isInv r11 s→K .normal [.one (.own 0 1),.one (.int .i64 4),.one (.int .i64 2)] [Blk.cells [SV.own 1 1,SV.own 2 1,SV.own 3 1,SV.own 4 1],Blk.row 128 (Row.ints .i64 [modG (IntKind.i64.wrap (r00-modG (IntKind.i64.wrap (r01*modG (IntKind.i64.wrap (r10*s)))))),modG (IntKind.i64.wrap (r01-modG (IntKind.i64.wrap (r01*modG (IntKind.i64.wrap (r11*s)))))),modG (IntKind.i64.wrap (r02-modG (IntKind.i64.wrap (r01*modG (IntKind.i64.wrap (r12*s)))))),modG (IntKind.i64.wrap (r03-modG (IntKind.i64.wrap (r01*modG (IntKind.i64.wrap (r13*s)))))),modG (IntKind.i64.wrap (r04-modG (IntKind.i64.wrap (r01*modG (IntKind.i64.wrap (r14*s))))))]),Blk.row 128 (Row.ints .i64 [modG (IntKind.i64.wrap (r10*s)),modG (IntKind.i64.wrap (r11*s)),modG (IntKind.i64.wrap (r12*s)),modG (IntKind.i64.wrap (r13*s)),modG (IntKind.i64.wrap (r14*s))]),Blk.row 128 (Row.ints .i64 [modG (IntKind.i64.wrap (r20-modG (IntKind.i64.wrap (r21*modG (IntKind.i64.wrap (r10*s)))))),modG (IntKind.i64.wrap (r21-modG (IntKind.i64.wrap (r21*modG (IntKind.i64.wrap (r11*s)))))),modG (IntKind.i64.wrap (r22-modG (IntKind.i64.wrap (r21*modG (IntKind.i64.wrap (r12*s)))))),modG (IntKind.i64.wrap (r23-modG (IntKind.i64.wrap (r21*modG (IntKind.i64.wrap (r13*s)))))),modG (IntKind.i64.wrap (r24-modG (IntKind.i64.wrap (r21*modG (IntKind.i64.wrap (r14*s))))))]),Blk.row 128 (Row.ints .i64 [modG (IntKind.i64.wrap (r30-modG (IntKind.i64.wrap (r31*modG (IntKind.i64.wrap (r10*s)))))),modG (IntKind.i64.wrap (r31-modG (IntKind.i64.wrap (r31*modG (IntKind.i64.wrap (r11*s)))))),modG (IntKind.i64.wrap (r32-modG (IntKind.i64.wrap (r31*modG (IntKind.i64.wrap (r12*s)))))),modG (IntKind.i64.wrap (r33-modG (IntKind.i64.wrap (r31*modG (IntKind.i64.wrap (r13*s)))))),modG (IntKind.i64.wrap (r34-modG (IntKind.i64.wrap (r31*modG (IntKind.i64.wrap (r14*s))))))])]):=by kernel_rfl
theorem exsl4c2(r00 r01 r02 r03 r04 r10 r11 r12 r13 r14 r20 r21 r22 r23 r24 r30 r31 r32 r33 r34:Int)(K:Ex→List AV→List Blk→Prop):evBody Esl4F5 (lb Tryz.f84 0) [0,15,16] [] [.one (.own 0 1),.one (.int .i64 4),.one (.int .i64 2)] [.cells [.own 1 1,.own 2 1,.own 3 1,.own 4 1],.row 128 (.ints .i64 [r00,r01,r02,r03,r04]),.row 128 (.ints .i64 [r10,r11,r12,r13,r14]),.row 128 (.ints .i64 [r20,r21,r22,r23,r24]),.row 128 (.ints .i64 [r30,r31,r32,r33,r34])] K=((0≤r22∧r22<65537)∧ ∀(s:Int),isInv r22 s→K .normal [.one (.own 0 1),.one (.int .i64 4),.one (.int .i64 3)] [Blk.cells [SV.own 1 1,SV.own 2 1,SV.own 3 1,SV.own 4 1],Blk.row 128 (Row.ints .i64 [modG (IntKind.i64.wrap (r00-modG (IntKind.i64.wrap (r02*modG (IntKind.i64.wrap (r20*s)))))),modG (IntKind.i64.wrap (r01-modG (IntKind.i64.wrap (r02*modG (IntKind.i64.wrap (r21*s)))))),modG (IntKind.i64.wrap (r02-modG (IntKind.i64.wrap (r02*modG (IntKind.i64.wrap (r22*s)))))),modG (IntKind.i64.wrap (r03-modG (IntKind.i64.wrap (r02*modG (IntKind.i64.wrap (r23*s)))))),modG (IntKind.i64.wrap (r04-modG (IntKind.i64.wrap (r02*modG (IntKind.i64.wrap (r24*s))))))]),Blk.row 128 (Row.ints .i64 [modG (IntKind.i64.wrap (r10-modG (IntKind.i64.wrap (r12*modG (IntKind.i64.wrap (r20*s)))))),modG (IntKind.i64.wrap (r11-modG (IntKind.i64.wrap (r12*modG (IntKind.i64.wrap (r21*s)))))),modG (IntKind.i64.wrap (r12-modG (IntKind.i64.wrap (r12*modG (IntKind.i64.wrap (r22*s)))))),modG (IntKind.i64.wrap (r13-modG (IntKind.i64.wrap (r12*modG (IntKind.i64.wrap (r23*s)))))),modG (IntKind.i64.wrap (r14-modG (IntKind.i64.wrap (r12*modG (IntKind.i64.wrap (r24*s))))))]),Blk.row 128 (Row.ints .i64 [modG (IntKind.i64.wrap (r20*s)),modG (IntKind.i64.wrap (r21*s)),modG (IntKind.i64.wrap (r22*s)),modG (IntKind.i64.wrap (r23*s)),modG (IntKind.i64.wrap (r24*s))]),Blk.row 128 (Row.ints .i64 [modG (IntKind.i64.wrap (r30-modG (IntKind.i64.wrap (r32*modG (IntKind.i64.wrap (r20*s)))))),modG (IntKind.i64.wrap (r31-modG (IntKind.i64.wrap (r32*modG (IntKind.i64.wrap (r21*s)))))),modG (IntKind.i64.wrap (r32-modG (IntKind.i64.wrap (r32*modG (IntKind.i64.wrap (r22*s)))))),modG (IntKind.i64.wrap (r33-modG (IntKind.i64.wrap (r32*modG (IntKind.i64.wrap (r23*s)))))),modG (IntKind.i64.wrap (r34-modG (IntKind.i64.wrap (r32*modG (IntKind.i64.wrap (r24*s))))))])]):=by kernel_rfl
theorem exsl4c3(r00 r01 r02 r03 r04 r10 r11 r12 r13 r14 r20 r21 r22 r23 r24 r30 r31 r32 r33 r34:Int)(K:Ex→List AV→List Blk→Prop):evBody Esl4F5 (lb Tryz.f84 0) [0,15,16] [] [.one (.own 0 1),.one (.int .i64 4),.one (.int .i64 3)] [.cells [.own 1 1,.own 2 1,.own 3 1,.own 4 1],.row 128 (.ints .i64 [r00,r01,r02,r03,r04]),.row 128 (.ints .i64 [r10,r11,r12,r13,r14]),.row 128 (.ints .i64 [r20,r21,r22,r23,r24]),.row 128 (.ints .i64 [r30,r31,r32,r33,r34])] K=((0≤r33∧r33<65537)∧ ∀(s:Int),isInv r33 s→K .normal [.one (.own 0 1),.one (.int .i64 4),.one (.int .i64 4)] [Blk.cells [SV.own 1 1,SV.own 2 1,SV.own 3 1,SV.own 4 1],Blk.row 128 (Row.ints .i64 [modG (IntKind.i64.wrap (r00-modG (IntKind.i64.wrap (r03*modG (IntKind.i64.wrap (r30*s)))))),modG (IntKind.i64.wrap (r01-modG (IntKind.i64.wrap (r03*modG (IntKind.i64.wrap (r31*s)))))),modG (IntKind.i64.wrap (r02-modG (IntKind.i64.wrap (r03*modG (IntKind.i64.wrap (r32*s)))))),modG (IntKind.i64.wrap (r03-modG (IntKind.i64.wrap (r03*modG (IntKind.i64.wrap (r33*s)))))),modG (IntKind.i64.wrap (r04-modG (IntKind.i64.wrap (r03*modG (IntKind.i64.wrap (r34*s))))))]),Blk.row 128 (Row.ints .i64 [modG (IntKind.i64.wrap (r10-modG (IntKind.i64.wrap (r13*modG (IntKind.i64.wrap (r30*s)))))),modG (IntKind.i64.wrap (r11-modG (IntKind.i64.wrap (r13*modG (IntKind.i64.wrap (r31*s)))))),modG (IntKind.i64.wrap (r12-modG (IntKind.i64.wrap (r13*modG (IntKind.i64.wrap (r32*s)))))),modG (IntKind.i64.wrap (r13-modG (IntKind.i64.wrap (r13*modG (IntKind.i64.wrap (r33*s)))))),modG (IntKind.i64.wrap (r14-modG (IntKind.i64.wrap (r13*modG (IntKind.i64.wrap (r34*s))))))]),Blk.row 128 (Row.ints .i64 [modG (IntKind.i64.wrap (r20-modG (IntKind.i64.wrap (r23*modG (IntKind.i64.wrap (r30*s)))))),modG (IntKind.i64.wrap (r21-modG (IntKind.i64.wrap (r23*modG (IntKind.i64.wrap (r31*s)))))),modG (IntKind.i64.wrap (r22-modG (IntKind.i64.wrap (r23*modG (IntKind.i64.wrap (r32*s)))))),modG (IntKind.i64.wrap (r23-modG (IntKind.i64.wrap (r23*modG (IntKind.i64.wrap (r33*s)))))),modG (IntKind.i64.wrap (r24-modG (IntKind.i64.wrap (r23*modG (IntKind.i64.wrap (r34*s))))))]),Blk.row 128 (Row.ints .i64 [modG (IntKind.i64.wrap (r30*s)),modG (IntKind.i64.wrap (r31*s)),modG (IntKind.i64.wrap (r32*s)),modG (IntKind.i64.wrap (r33*s)),modG (IntKind.i64.wrap (r34*s))])]):=by kernel_rfl
theorem exsl4c4(R0 R1 R2 R3:List Int)(K:Ex→List AV→List Blk→Prop):evBody Esl4F5 (lb Tryz.f84 0) [0,15,16] [] [.one (.own 0 1),.one (.int .i64 4),.one (.int .i64 4)] [.cells [.own 1 1,.own 2 1,.own 3 1,.own 4 1],.row 128 (.ints .i64 R0),.row 128 (.ints .i64 R1),.row 128 (.ints .i64 R2),.row 128 (.ints .i64 R3)] K=(K (.exit 0) [] [Blk.cells [SV.own 1 1,SV.own 2 1,SV.own 3 1,SV.own 4 1],Blk.row 128 (Row.ints .i64 R0),Blk.row 128 (Row.ints .i64 R1),Blk.row 128 (Row.ints .i64 R2),Blk.row 128 (Row.ints .i64 R3)]):=by kernel_rfl
theorem extmw(a b:Int)(K:AV→List Blk→Prop):evFn Etmw Tryz.f107 [.one (.int .i64 a),.one (.int .i64 b)] [] K=(K (.one (.int .i64 (modG (IntKind.i64.wrap (a*b))))) []):=by kernel_rfl
theorem exmnw(a b:Int)(K:AV→List Blk→Prop):evFn Emnw Tryz.f83 [.one (.int .i64 a),.one (.int .i64 b)] [] K=(K (.one (.int .i64 (modG (IntKind.i64.wrap (a-b))))) []):=by kernel_rfl
theorem exmin(a b:Int)(K:AV→List Blk→Prop):evFn Emin Tryz.f83 [.one (.int .i64 a),.one (.int .i64 b)] [] K=(K (.one (.int .i64 (modG (IntKind.i64.wrap (a-b))))) []):=by kernel_rfl
theorem exsl1(R0:List Int)(K:AV→List Blk→Prop):evFn Esl1 Tryz.f84 [.one (.own 0 1)] [.cells [.own 1 1],.row 128 (.ints .i64 R0)] K=(((1:Int)=(1:Int)∧okSol [R0]∧(0:Int)≤(0:Int)∧(0:Int)≤(1:Int))∧bif decide (0≤(↑[SV.own 1 1].length:Int))&&decide ((↑[SV.own 1 1].length:Int)<(↑((solF 1 0 [R0]).getD 0 []).length:Int)) then bif decide ((↑[SV.own 1 1].length:Int).toNat+0<((solF 1 0 [R0]).getD 0 []).length) then K (.one (.own 2 1)) [Blk.cells [SV.own 1 1],Blk.row 128 (Row.ints .i64 ((solF 1 0 [R0]).getD 0 [])),Blk.row 128 (Row.ints .i64 [((solF 1 0 [R0]).getD 0 []).getD ((↑[SV.own 1 1].length:Int).toNat+0) 0])] else False else False):=by kernel_rfl
theorem exsl2(R0 R1:List Int)(K:AV→List Blk→Prop):evFn Esl2 Tryz.f84 [.one (.own 0 1)] [.cells [.own 1 1,.own 2 1],.row 128 (.ints .i64 R0),.row 128 (.ints .i64 R1)] K=(((2:Int)=(2:Int)∧okSol [R0,R1]∧(0:Int)≤(0:Int)∧(0:Int)≤(2:Int))∧bif decide (0≤(↑[SV.own 1 1,SV.own 2 1].length:Int))&&decide ((↑[SV.own 1 1,SV.own 2 1].length:Int)<(↑((solF 2 0 [R0,R1]).getD 0 []).length:Int)) then bif decide ((↑[SV.own 1 1,SV.own 2 1].length:Int).toNat+0<((solF 2 0 [R0,R1]).getD 0 []).length) then bif decide (0≤(↑[SV.own 1 1,SV.own 2 1].length:Int))&&decide ((↑[SV.own 1 1,SV.own 2 1].length:Int)<(↑((solF 2 0 [R0,R1]).getD 1 []).length:Int)) then bif decide ((↑[SV.own 1 1,SV.own 2 1].length:Int).toNat+0<((solF 2 0 [R0,R1]).getD 1 []).length) then K (.one (.own 3 1)) [Blk.cells [SV.own 1 1,SV.own 2 1],Blk.row 128 (Row.ints .i64 ((solF 2 0 [R0,R1]).getD 0 [])),Blk.row 128 (Row.ints .i64 ((solF 2 0 [R0,R1]).getD 1 [])),Blk.row 128 (Row.ints .i64 [((solF 2 0 [R0,R1]).getD 0 []).getD ((↑[SV.own 1 1,SV.own 2 1].length:Int).toNat+0) 0,((solF 2 0 [R0,R1]).getD 1 []).getD ((↑[SV.own 1 1,SV.own 2 1].length:Int).toNat+0) 0])] else False else False else False else False):=by kernel_rfl
theorem exsl3(R0 R1 R2:List Int)(K:AV→List Blk→Prop):evFn Esl3 Tryz.f84 [.one (.own 0 1)] [.cells [.own 1 1,.own 2 1,.own 3 1],.row 128 (.ints .i64 R0),.row 128 (.ints .i64 R1),.row 128 (.ints .i64 R2)] K=(((3:Int)=(3:Int)∧okSol [R0,R1,R2]∧(0:Int)≤(0:Int)∧(0:Int)≤(3:Int))∧bif decide (0≤(↑[SV.own 1 1,SV.own 2 1,SV.own 3 1].length:Int))&&decide ((↑[SV.own 1 1,SV.own 2 1,SV.own 3 1].length:Int)<(↑((solF 3 0 [R0,R1,R2]).getD 0 []).length:Int)) then bif decide ((↑[SV.own 1 1,SV.own 2 1,SV.own 3 1].length:Int).toNat+0<((solF 3 0 [R0,R1,R2]).getD 0 []).length) then bif decide (0≤(↑[SV.own 1 1,SV.own 2 1,SV.own 3 1].length:Int))&&decide ((↑[SV.own 1 1,SV.own 2 1,SV.own 3 1].length:Int)<(↑((solF 3 0 [R0,R1,R2]).getD 1 []).length:Int)) then bif decide ((↑[SV.own 1 1,SV.own 2 1,SV.own 3 1].length:Int).toNat+0<((solF 3 0 [R0,R1,R2]).getD 1 []).length) then bif decide (0≤(↑[SV.own 1 1,SV.own 2 1,SV.own 3 1].length:Int))&&decide ((↑[SV.own 1 1,SV.own 2 1,SV.own 3 1].length:Int)<(↑((solF 3 0 [R0,R1,R2]).getD 2 []).length:Int)) then bif decide ((↑[SV.own 1 1,SV.own 2 1,SV.own 3 1].length:Int).toNat+0<((solF 3 0 [R0,R1,R2]).getD 2 []).length) then K (.one (.own 4 1)) [Blk.cells [SV.own 1 1,SV.own 2 1,SV.own 3 1],Blk.row 128 (Row.ints .i64 ((solF 3 0 [R0,R1,R2]).getD 0 [])),Blk.row 128 (Row.ints .i64 ((solF 3 0 [R0,R1,R2]).getD 1 [])),Blk.row 128 (Row.ints .i64 ((solF 3 0 [R0,R1,R2]).getD 2 [])),Blk.row 128 (Row.ints .i64 [((solF 3 0 [R0,R1,R2]).getD 0 []).getD ((↑[SV.own 1 1,SV.own 2 1,SV.own 3 1].length:Int).toNat+0) 0,((solF 3 0 [R0,R1,R2]).getD 1 []).getD ((↑[SV.own 1 1,SV.own 2 1,SV.own 3 1].length:Int).toNat+0) 0,((solF 3 0 [R0,R1,R2]).getD 2 []).getD ((↑[SV.own 1 1,SV.own 2 1,SV.own 3 1].length:Int).toNat+0) 0])] else False else False else False else False else False else False):=by kernel_rfl
theorem exsl4(R0 R1 R2 R3:List Int)(K:AV→List Blk→Prop):evFn Esl4 Tryz.f84 [.one (.own 0 1)] [.cells [.own 1 1,.own 2 1,.own 3 1,.own 4 1],.row 128 (.ints .i64 R0),.row 128 (.ints .i64 R1),.row 128 (.ints .i64 R2),.row 128 (.ints .i64 R3)] K=(((4:Int)=(4:Int)∧okSol [R0,R1,R2,R3]∧(0:Int)≤(0:Int)∧(0:Int)≤(4:Int))∧bif decide (0≤(↑[SV.own 1 1,SV.own 2 1,SV.own 3 1,SV.own 4 1].length:Int))&&decide ((↑[SV.own 1 1,SV.own 2 1,SV.own 3 1,SV.own 4 1].length:Int)<(↑((solF 4 0 [R0,R1,R2,R3]).getD 0 []).length:Int)) then bif decide ((↑[SV.own 1 1,SV.own 2 1,SV.own 3 1,SV.own 4 1].length:Int).toNat+0<((solF 4 0 [R0,R1,R2,R3]).getD 0 []).length) then bif decide (0≤(↑[SV.own 1 1,SV.own 2 1,SV.own 3 1,SV.own 4 1].length:Int))&&decide ((↑[SV.own 1 1,SV.own 2 1,SV.own 3 1,SV.own 4 1].length:Int)<(↑((solF 4 0 [R0,R1,R2,R3]).getD 1 []).length:Int)) then bif decide ((↑[SV.own 1 1,SV.own 2 1,SV.own 3 1,SV.own 4 1].length:Int).toNat+0<((solF 4 0 [R0,R1,R2,R3]).getD 1 []).length) then bif decide (0≤(↑[SV.own 1 1,SV.own 2 1,SV.own 3 1,SV.own 4 1].length:Int))&&decide ((↑[SV.own 1 1,SV.own 2 1,SV.own 3 1,SV.own 4 1].length:Int)<(↑((solF 4 0 [R0,R1,R2,R3]).getD 2 []).length:Int)) then bif decide ((↑[SV.own 1 1,SV.own 2 1,SV.own 3 1,SV.own 4 1].length:Int).toNat+0<((solF 4 0 [R0,R1,R2,R3]).getD 2 []).length) then bif decide (0≤(↑[SV.own 1 1,SV.own 2 1,SV.own 3 1,SV.own 4 1].length:Int))&&decide ((↑[SV.own 1 1,SV.own 2 1,SV.own 3 1,SV.own 4 1].length:Int)<(↑((solF 4 0 [R0,R1,R2,R3]).getD 3 []).length:Int)) then bif decide ((↑[SV.own 1 1,SV.own 2 1,SV.own 3 1,SV.own 4 1].length:Int).toNat+0<((solF 4 0 [R0,R1,R2,R3]).getD 3 []).length) then K (.one (.own 5 1)) [Blk.cells [SV.own 1 1,SV.own 2 1,SV.own 3 1,SV.own 4 1],Blk.row 128 (Row.ints .i64 ((solF 4 0 [R0,R1,R2,R3]).getD 0 [])),Blk.row 128 (Row.ints .i64 ((solF 4 0 [R0,R1,R2,R3]).getD 1 [])),Blk.row 128 (Row.ints .i64 ((solF 4 0 [R0,R1,R2,R3]).getD 2 [])),Blk.row 128 (Row.ints .i64 ((solF 4 0 [R0,R1,R2,R3]).getD 3 [])),Blk.row 128 (Row.ints .i64 [((solF 4 0 [R0,R1,R2,R3]).getD 0 []).getD ((↑[SV.own 1 1,SV.own 2 1,SV.own 3 1,SV.own 4 1].length:Int).toNat+0) 0,((solF 4 0 [R0,R1,R2,R3]).getD 1 []).getD ((↑[SV.own 1 1,SV.own 2 1,SV.own 3 1,SV.own 4 1].length:Int).toNat+0) 0,((solF 4 0 [R0,R1,R2,R3]).getD 2 []).getD ((↑[SV.own 1 1,SV.own 2 1,SV.own 3 1,SV.own 4 1].length:Int).toNat+0) 0,((solF 4 0 [R0,R1,R2,R3]).getD 3 []).getD ((↑[SV.own 1 1,SV.own 2 1,SV.own 3 1,SV.own 4 1].length:Int).toNat+0) 0])] else False else False else False else False else False else False else False else False):=by kernel_rfl
end Go.Ev
