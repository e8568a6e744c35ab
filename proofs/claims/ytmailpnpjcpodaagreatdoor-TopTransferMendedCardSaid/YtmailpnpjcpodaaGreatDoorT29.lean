/-
  Part of the proof that TopTransferMended holds.
-/
import Derived.Test.YtmailpnpjcpodaaGreatDoorT28
set_option linter.unusedVariables false
set_option linter.unusedSimpArgs false
set_option linter.unusedSectionVars false
namespace Go.Ev
open Go Go.Proofs
attribute [local irreducible] evFn evBody evRound
set_option maxRecDepth 20000
theorem keptJ_step{Q:List Int}{j n:Int}(h:j<n):keptJ Q j (n-j).toNat=bif memB j Q then keptJ Q (j+1) (n-(j+1)).toNat else j::keptJ Q (j+1) (n-(j+1)).toNat:=by
 rw[show(n-j).toNat=(n-(j+1)).toNat+1 by omega];rfl
theorem ix_get{L:List Int}{n i:Nat}(h:okIx L n)(hi:i<L.length):0≤L.getD i 0∧L.getD i 0<n:=h _ (getD_mem hi)
theorem facs_step{L:List Int}{i:Int}(j:Int)(h0:0≤i)(h:i<L.length):facs (L.drop i.toNat) j=facG (L.getD i.toNat 0) j::facs (L.drop (i+1).toNat) j:=by
 rw[drop_step 0 (by omega),show(i+1).toNat=i.toNat+1 by omega];rfl
theorem set8_ok{O:List (List Int)}{x a:Nat}{v:Int}(h:O.all len8=true)(hx:x<O.length):(O.set x ((O.getD x []).set a v)).all len8=true:=by
 obtain⟨xs,_,h8,_,he⟩:=row_some hx h
 refine all_set h ?_
 rw[he];unfold len8;rw[List.length_set,h8];rfl
theorem put_step{O:List (List Int)}{L V:List Int}{i:Int}(a:Nat)(h0:0≤i)(hL:i<L.length)(hV:i<V.length):putF O a (L.drop i.toNat) (V.drop i.toNat)=putF (O.set (L.getD i.toNat 0).toNat ((O.getD (L.getD i.toNat 0).toNat []).set a (V.getD i.toNat 0-32768))) a (L.drop (i+1).toNat) (V.drop (i+1).toNat):=by
 rw[drop_step (l:=L) 0 (by omega),drop_step (l:=V) 0 (by omega),show(i+1).toNat=i.toNat+1 by omega];rfl
theorem parX_step{O:List (List Int)}{j:Int}{ps:List Int}{s:Int}(h0:0≤s)(h:s<8):parX O j ps (8-s).toNat s.toNat=(parR [] j s.toNat 0 0 O==ps.getD s.toNat 0&&parX O j ps (8-(s+1)).toNat (s+1).toNat):=by
 rw[show(8-s).toNat=(8-(s+1)).toNat+1 by omega,show(s+1).toNat=s.toNat+1 by omega];rfl
theorem parX_fr(O P:List (List Int))(j:Int): ∀f s,parX O j (P.getD j.toNat []) f s=parFr O P j f s
 |0,_=>rfl
 |f+1,s=>by unfold parX parFr parAt;rw[parX_fr O P j f (s+1)]
theorem parR_rngL(ws:List Int)(j:Int)(a:Nat): ∀(l:List (List Int)) (out i:Int),(0≤out∧out<65537)→0≤parR ws j a out i l∧parR ws j a out i l<65537
 |[],out,i,h=>h
 |xs::l,out,i,h=>by
  unfold parR
  refine parR_rngL ws j a l _ _ ?_
  cases memB i ws with
  |true=>exact h
  |false=>exact modG_range _
theorem facs_len(L:List Int)(j:Int):(facs L j).length=L.length:=List.length_map _
theorem eqR_len(L:List Int)(j z:Int):(facs L j++[z]).length=L.length+1:=by rw[List.length_append,facs_len];rfl
theorem eqR_res(D P:List (List Int))(L:List Int)(j:Int)(a:Nat):resRow (eqR D P L j a)=true:=by
 unfold resRow eqR
 rw[List.all_append,Bool.and_eq_true]
 refine⟨List.all_eq_true.2 fun z hz=> ?_,?_⟩
 ·obtain⟨i,_,rfl⟩:=List.mem_map.1 hz
  exact resG_iff.2 (facG_range i j)
 ·rw[List.all_cons,resG_iff.2 (show 0≤rhsF D P L j a∧rhsF D P L j a<65537 from modG_range _)];rfl
theorem eqs_okSol{n:Nat}{D P:List (List Int)}{L T:List Int}(h:okRs n D P L T)(a:Nat):okSol (eqsF D P L T a):=by
 have hl:(eqsF D P L T a).length=n:=by
  unfold eqsF
  rw[List.length_map,List.length_take,h.ln]
  have:=h.kn
  omega
 intro R hR
 rw[hl]
 obtain⟨j,_,rfl⟩:=List.mem_map.1 hR
 exact⟨by unfold eqR;rw[eqR_len,h.ln],eqR_res D P L j a⟩
theorem solV_len{rows:List (List Int)}(h:okSol rows):(solV rows).length=rows.length:=by
 unfold solV
 rw[List.length_map,(solF_ok rows.length 0 rows h (by omega)).2]
theorem solV_res{rows:List (List Int)}(h:okSol rows):resRow (solV rows)=true:=by
 unfold solV resRow
 rw[List.all_eq_true]
 intro z hz
 obtain⟨R,hR,rfl⟩:=List.mem_map.1 hz
 have:=(solF_ok rows.length 0 rows h (by omega)).1 R hR
 exact resG_iff.2 (res_get this.2 _)
theorem put_out{D O:List (List Int)}: ∀(L V:List Int) (a:Nat) (O:List (List Int)),okOut D O→okIx L D.length→okOut D (putF O a L V)
 |[],_,_,_,h,_=>by simpa [putF] using h
 |_::_,[],_,_,h,_=>by simpa [putF] using h
 |i::L,v::V,a,O,h,hi=>by
  unfold putF
  have h0:=hi i (List.mem_cons_self ..)
  have hl:=h.1
  exact put_out (O:=O) L V a _ ⟨by rw[List.length_set];exact hl,set8_ok h.2 (by omega)⟩ (fun x hx=>hi x (List.mem_cons_of_mem _ hx))
theorem resF_step{D P O:List (List Int)}{L T:List Int}{a:Int}(h0:0≤a)(h:a<8):resF D P L T (8-a).toNat a.toNat O=resF D P L T (8-(a+1)).toNat (a+1).toNat (putF O a.toNat L (solV (eqsF D P L T a.toNat))):=by
 rw[show(8-a).toNat=(8-(a+1)).toNat+1 by omega,show(a+1).toNat=a.toNat+1 by omega];rfl
theorem ix12{L:List Int}{n:Nat}(h:okIx L n)(hn:n≤12):okIx L 12:=fun x hx=>by have:=h x hx;omega
theorem and2{a b:Bool}(h1:a=true)(h2:b=true):(a&&b)=true:=by rw[h1,h2];rfl
theorem take_get: ∀(n:Nat) (T:List Int),n≤T.length→T.take n=(List.range n).map fun i=>T.getD i 0
 |0,T,_=>by simp
 |n+1,[],h=>by simp at h
 |n+1,t::T,h=>by
  rw[List.take_succ_cons,take_get n T (by simpa using h),List.range_succ_eq_map,List.map_cons,List.map_map]
  rfl
theorem eqs_list{n:Nat}{D P:List (List Int)}{L T:List Int}(h:okRs n D P L T)(a:Nat):eqsF D P L T a=(List.range n).map fun i=>eqR D P L (T.getD i 0) a:=by
 unfold eqsF
 rw[h.ln,take_get n T h.kn,List.map_map]
 rfl
theorem lokrd_0{S0:Spec}{l1 l2 l4 l6:LoopBy}(hS:SpecOK Tryz.prog 84 S0):LoopOK (ErdM S0 l1 l2 l4 l6 1) (lb Tryz.f30 0) [1,5,31,32] [5] kpL:=by
 refine loopOK (.cons okgro (.cons ok113 (.cons okclo (.cons ok115 (.cons ok116 (.cons ok100 (.cons okmin (.cons hS (.cons ok82 .nil))))))))) (noInner (by kernel_rfl)) (fun vs σ=>match vs,σ with
  |[.one (.ptr 0 1 0 0),.one .nil,.one (.int .i64 n),.one (.int .i64 j)],[.cells [.data (.mat .i64 8 _),.data (.mat .i64 8 _),.data (.ints .i64 _),.data (.ints .i64 _)]]=>(n-j).toNat
  |[.one (.ptr 0 1 0 0),.one (.own 1 1),.one (.int .i64 n),.one (.int .i64 j)],[.cells [.data (.mat .i64 8 _),.data (.mat .i64 8 _),.data (.ints .i64 _),.data (.ints .i64 _)],.row 3 (.ints .i64 _)]=>(n-j).toNat
  |_,_=>0) fun vs σ k h=> ?_
 unfold kpL at h
 split at h
 rotate_right
 ·exact h.elim
 ·rename_i n j D P L Q
  rw[exrdl0a _ _ _ _ _ n j D P L Q _]
  obtain⟨⟨hg,rfl,h2,h3⟩,h⟩:=h
  by_cases hj:j<(P.length:Int)
  ·have hp:=hg.2.1
   have hw:IntKind.i64.wrap (j+1)=j+1:=wrap_id (by omega) (by omega)
   have hq:=hg.2.2.2.1
   rw[decide_eq_true hj,cond_true,hw]
   refine And.intro (by omega) ?_
   rw[keptJ_step hj] at h
   cases hm:memB j Q with
   |true=>
    rw[hm] at h
    exact⟨⟨⟨hg,rfl,by omega,by omega⟩,h⟩,by show((P.length:Int)-(j+1)).toNat<((P.length:Int)-j).toNat;omega⟩
   |false=>
    rw[hm,cond_false,List.isEmpty_cons,cond_false] at h
    exact⟨⟨⟨hg,rfl,by omega,by omega,by simp;omega⟩,h⟩,by show((P.length:Int)-(j+1)).toNat<((P.length:Int)-j).toNat;omega⟩
  ·rw[decide_eq_false hj]
   rw[show((P.length:Int)-j).toNat=0 by omega] at h
   exact h
 ·rename_i n j D P L Q S
  rw[exrdl0b _ _ _ _ _ n j D P L Q S _]
  obtain⟨⟨hg,rfl,h2,h3,h4⟩,h⟩:=h
  by_cases hj:j<(P.length:Int)
  ·have hp:=hg.2.1
   have hw:IntKind.i64.wrap (j+1)=j+1:=wrap_id (by omega) (by omega)
   have hq:=hg.2.2.2.1
   rw[decide_eq_true hj,cond_true,hw]
   refine And.intro (by omega) ?_
   rw[keptJ_step hj] at h
   cases hm:memB j Q with
   |true=>
    rw[hm] at h
    exact⟨⟨⟨hg,rfl,by omega,by omega,by omega⟩,h⟩,by show((P.length:Int)-(j+1)).toNat<((P.length:Int)-j).toNat;omega⟩
   |false=>
    rw[hm] at h
    have hl:(S++[j]).length=S.length+1:=by simp
    rw[Bool.not_false,cond_true,hl,decide_eq_true (by omega),cond_true]
    exact⟨⟨⟨hg,rfl,by omega,by omega,by rw[hl];omega⟩,by rw[List.append_assoc];exact h⟩,by show((P.length:Int)-(j+1)).toNat<((P.length:Int)-j).toNat;omega⟩
  ·rw[decide_eq_false hj]
   rw[show((P.length:Int)-j).toNat=0 by omega] at h
   unfold keptJ at h
   rw[List.append_nil] at h
   exact h
theorem lokrd_3{S0:Spec}{l1 l2 l4 l6:LoopBy}(hS:SpecOK Tryz.prog 84 S0):LoopOK (ErdM S0 l1 l2 l4 l6 0) (lb Tryz.f30 3) [11,12,68,69,70] [12] rdD:=by
 refine loopOK (.cons okgro (.cons ok113 (.cons okclo (.cons ok115 (.cons ok116 (.cons ok100 (.cons okmin (.cons hS (.cons ok82 .nil))))))))) (noInner (by kernel_rfl)) (fun vs σ=>match vs,σ with
  |[.one (.int .i64 _),.one .nil,.one (.data (.ints .i64 _)),.one (.int .i64 n),.one (.int .i64 i)],[]=>(n-i).toNat
  |[.one (.int .i64 _),.one (.own 0 1),.one (.data (.ints .i64 _)),.one (.int .i64 n),.one (.int .i64 i)],[.row 128 (.ints .i64 _)]=>(n-i).toNat
  |_,_=>0) fun vs σ k h=> ?_
 unfold rdD at h
 split at h
 rotate_right
 ·exact h.elim
 ·rename_i j L n i
  rw[exrdl3a _ _ _ _ _ j L n i _]
  obtain⟨⟨h1,h2,rfl,hi0,h5,h6,h7⟩,h⟩:=h
  have hw:IntKind.i64.wrap (i+1)=i+1:=wrap_id (by omega) (by omega)
  have e0:L.getD (i.toNat+0) 0=L.getD i.toNat 0:=rfl
  have d1:decide (i<(L.length:Int))=true:=decide_eq_true (by omega)
  have d2:decide (0≤i)=true:=decide_eq_true (by omega)
  have d3:decide (i.toNat+0<L.length)=true:=decide_eq_true (by omega)
  obtain⟨x1,x2⟩:=ix_get h7 (show i.toNat<L.length by omega)
  rw[e0,hw]
  simp only[d1,d2,d3,Bool.and_self,cond_true]
  have st:=facs_step (L:=L) j (show 0≤i by omega) (by omega)
  have e:L.drop i.toNat=L:=by rw[hi0];rfl
  rw[e] at st
  refine And.intro ⟨x1,by omega,by omega,by omega⟩ ⟨⟨⟨h2,rfl,by omega,h5,h6,by simp;omega,by omega,h7⟩,?_⟩,by show((L.length:Int)-(i+1)).toNat<((L.length:Int)-i).toNat;omega⟩
  rw[st] at h
  exact h
 ·rename_i j L n i R
  rw[exrdl3b _ _ _ _ _ j L n i R _]
  obtain⟨⟨h2,rfl,hi0,h5,h6,hR,h3,h7⟩,h⟩:=h
  by_cases hi:i<(L.length:Int)
  ·have hw:IntKind.i64.wrap (i+1)=i+1:=wrap_id (by omega) (by omega)
   have e0:L.getD (i.toNat+0) 0=L.getD i.toNat 0:=rfl
   have d1:decide (i<(L.length:Int))=true:=decide_eq_true hi
   have d2:decide (0≤i)=true:=decide_eq_true hi0
   have d3:decide (i.toNat+0<L.length)=true:=decide_eq_true (by omega)
   obtain⟨x1,x2⟩:=ix_get h7 (show i.toNat<L.length by omega)
   have hl:(R++[facG (L.getD i.toNat 0) j]).length=R.length+1:=by simp
   rw[e0,hw,hl,decide_eq_true (show(R.length+1)*8≤140737488355328∧R.length+1≤140737488355328 by omega)]
   simp only[d1,d2,d3,Bool.and_self,cond_true]
   refine And.intro ⟨x1,by omega,by omega,by omega⟩ ⟨⟨⟨h2,rfl,by omega,h5,h6,by rw[hl];omega,by omega,h7⟩,?_⟩,by show((L.length:Int)-(i+1)).toNat<((L.length:Int)-i).toNat;omega⟩
   rw[facs_step j hi0 hi] at h
   rw[List.append_assoc]
   exact h
  ·rw[decide_eq_false hi]
   rw[List.drop_eq_nil_of_le (by omega)] at h
   unfold facs at h
   rw[List.map_nil,List.append_nil] at h
   exact h
theorem lokrd_4{S0:Spec}{l1 l2 l4 l6:LoopBy}(hS:SpecOK Tryz.prog 84 S0):LoopOK (ErdM S0 l1 l2 l4 l6 3) (lb Tryz.f30 4) [1,7,8,106,107,108] [] rdE:=by
 refine loopOK (.cons okgro (.cons ok113 (.cons okclo (.cons ok115 (.cons ok116 (.cons ok100 (.cons okmin (.cons hS (.cons ok82 .nil))))))))) (noInner (by kernel_rfl)) (fun vs σ=>match vs,σ with
  |[.one (.ptr 0 1 0 0),.one (.own 1 8),.one (.int .i64 _),.one (.own 2 1),.one (.int .i64 n),.one (.int .i64 i)],[.cells [.data (.mat .i64 8 _),.data (.mat .i64 8 _),.data (.ints .i64 _),.data (.ints .i64 _)],.row 22 (.mat .i64 8 _),.row 128 (.ints .i64 _)]=>(n-i).toNat
  |_,_=>0) fun vs σ k h=> ?_
 unfold rdE at h
 split at h
 rotate_right
 ·exact h.elim
 ·rename_i a n i D P L Q O V
  rw[exrdl4a _ _ _ _ _ a n i D P L Q O V _]
  obtain⟨⟨h8,hix,rfl,hvl,hv4,hvr,ha0,ha1,hi0,hi1⟩,h⟩:=h
  by_cases hi:i<(V.length:Int)
  ·have hw:IntKind.i64.wrap (i+1)=i+1:=wrap_id (by omega) (by omega)
   obtain⟨x1,x2⟩:=ix_get hix (show i.toNat<L.length by omega)
   obtain⟨v1,v2⟩:=res_get hvr i.toNat
   have hw2:IntKind.i64.wrap (V.getD i.toNat 0-32768)=V.getD i.toNat 0-32768:=wrap_id (by omega) (by omega)
   have e0:L.getD (i.toNat+0) 0=L.getD i.toNat 0:=rfl
   have e1:V.getD (i.toNat+0) 0=V.getD i.toNat 0:=rfl
   have e2:0+a.toNat=a.toNat:=by omega
   have hxl:(L.getD i.toNat 0).toNat<O.length:=by omega
   obtain⟨xs,_,hx8,_,he⟩:=row_some hxl h8
   have d1:decide (i<(V.length:Int))=true:=decide_eq_true hi
   have d2:decide (0≤i)=true:=decide_eq_true hi0
   have d3:decide (i.toNat+0<V.length)=true:=decide_eq_true (by omega)
   have d4:decide (i<(L.length:Int))=true:=decide_eq_true (by omega)
   have d5:decide (i.toNat+0<L.length)=true:=decide_eq_true (by omega)
   have d6:decide (0≤L.getD i.toNat 0)=true:=decide_eq_true x1
   have d7:decide (L.getD i.toNat 0<(O.length:Int))=true:=decide_eq_true x2
   have d8:decide (0≤a)=true:=decide_eq_true ha0
   have d9:decide (a<8)=true:=decide_eq_true (by omega)
   have d10:decide (0+a.toNat<8)=true:=decide_eq_true (by omega)
   have d11:decide ((L.getD i.toNat 0).toNat<O.length)=true:=decide_eq_true hxl
   have d12:decide ((O.getD (L.getD i.toNat 0).toNat []).length=8)=true:=decide_eq_true (by rw[he];exact hx8)
   rw[e0,e1,hw,hw2]
   simp only[d1,d2,d3,d4,d5,d6,d7,d8,d9,d10,d11,d12,Bool.and_self,cond_true]
   rw[e2]
   refine⟨⟨⟨set8_ok h8 hxl,by rw[List.length_set];exact hix,rfl,hvl,hv4,hvr,ha0,ha1,by omega,by omega⟩,?_⟩,by show((V.length:Int)-(i+1)).toNat<((V.length:Int)-i).toNat;omega⟩
   rw[put_step a.toNat hi0 (by omega) hi] at h
   exact h
  ·rw[decide_eq_false hi]
   have hd: ∀l:List Int,l.length=V.length→l.drop i.toNat=[]:=fun l hl=>List.drop_eq_nil_of_le (by omega)
   rw[hd L hvl.symm,hd V rfl] at h
   exact h
theorem lokrd_5{S0:Spec}{l1 l2 l4 l6:LoopBy}(hS:SpecOK Tryz.prog 84 S0):LoopOK (ErdM S0 l1 l2 l4 l6 1) (lb Tryz.f30 5) [7,127,128,129] [2,3] rdF:=by
 refine loopOK (.cons okgro (.cons ok113 (.cons okclo (.cons ok115 (.cons ok116 (.cons ok100 (.cons okmin (.cons hS (.cons ok82 .nil))))))))) (noInner (by kernel_rfl)) (fun vs σ=>match vs,σ with
  |[.one (.own 0 8),.one (.data (.ints .i64 _)),.one (.int .i64 n),.one (.int .i64 i)],[.row 22 (.mat .i64 8 _)]=>(n-i).toNat
  |_,_=>0) fun vs σ k h=> ?_
 unfold rdF at h
 split at h
 rotate_right
 ·exact h.elim
 ·rename_i L n i O
  rw[exrdl5a _ _ _ _ _ L n i O _]
  obtain⟨⟨h8,hix,rfl,hl4,hi0⟩,h⟩:=h
  by_cases hi:i<(L.length:Int)
  ·have hw:IntKind.i64.wrap (i+1)=i+1:=wrap_id (by omega) (by omega)
   obtain⟨x1,x2⟩:=ix_get hix (show i.toNat<L.length by omega)
   have e0:L.getD (i.toNat+0) 0=L.getD i.toNat 0:=rfl
   have hxl:(L.getD i.toNat 0).toNat<O.length:=by omega
   have d1:decide (i<(L.length:Int))=true:=decide_eq_true hi
   have d2:decide (0≤i)=true:=decide_eq_true hi0
   have d5:decide (i.toNat+0<L.length)=true:=decide_eq_true (by omega)
   have d6:decide (0≤L.getD i.toNat 0)=true:=decide_eq_true x1
   have d7:decide (L.getD i.toNat 0<(O.length:Int))=true:=decide_eq_true x2
   have d11:decide ((L.getD i.toNat 0).toNat<O.length)=true:=decide_eq_true hxl
   rw[e0,hw,eta_r8 h8 hxl]
   simp only[d1,d2,d5,d6,d7,d11,show decide (7<8)=true by decide,Bool.and_self,cond_true]
   rw[drop_step 0 (by omega:i.toNat<L.length),List.all_cons,show i.toNat+1=(i+1).toNat by omega] at h
   unfold rowOk okRow at h
   cases hb:(O.getD (L.getD i.toNat 0).toNat []).all sampleG with
   |true=>rw[hb] at h;exact⟨⟨⟨h8,hix,rfl,hl4,by omega⟩,h⟩,by show((L.length:Int)-(i+1)).toNat<((L.length:Int)-i).toNat;omega⟩
   |false=>rw[hb] at h;exact h
  ·rw[decide_eq_false hi]
   rw[List.drop_eq_nil_of_le (by omega)] at h
   exact h
theorem lokrd_7{S0:Spec}{l1 l2 l4 l6:LoopBy}(hS:SpecOK Tryz.prog 84 S0):LoopOK (ErdM S0 l1 l2 l4 l6 1) (lb Tryz.f30 7) [7,21,150,151] [2,3] rdH:=by
 refine loopOK (.cons okgro (.cons ok113 (.cons okclo (.cons ok115 (.cons ok116 (.cons ok100 (.cons okmin (.cons hS (.cons ok82 .nil))))))))) (noInner (by kernel_rfl)) (fun vs σ=>match vs,σ with
  |[.one (.own 0 8),.one (.int .i64 _),.agg [.int .i64 _,.int .i64 _,.int .i64 _,.int .i64 _,.int .i64 _,.int .i64 _,.int .i64 _,.int .i64 _],.one (.int .i64 s)],[.row 22 (.mat .i64 8 _)]=>(8-s).toNat
  |_,_=>0) fun vs σ k h=> ?_
 unfold rdH at h
 split at h
 rotate_right
 ·exact h.elim
 ·rename_i j x0 x1 x2 x3 x4 x5 x6 x7 s O
  rw[exrdl7a _ _ _ _ _ j x0 x1 x2 x3 x4 x5 x6 x7 s O _]
  obtain⟨⟨ho,h8,hok,hj0,hj1,hs0,hs1⟩,h⟩:=h
  by_cases hs:s<8
  ·have hw:IntKind.i64.wrap (s+1)=s+1:=wrap_id (by omega) (by omega)
   have d1:decide (s<8)=true:=decide_eq_true hs
   have d2:decide (0≤s)=true:=decide_eq_true hs0
   rw[hw]
   simp only[d1,d2,Bool.and_self,cond_true]
   refine And.intro ⟨by omega,by omega,by omega,by omega,hs0,by omega,h8,kept_all hok 0⟩ ?_
   rw[parX_step hs0 hs] at h
   cases hb:parR [] j s.toNat 0 0 O==[x0,x1,x2,x3,x4,x5,x6,x7].getD s.toNat 0 with
   |true=>
    rw[hb,Bool.true_and] at h
    rw[bne,hb]
    exact⟨⟨⟨ho,h8,hok,hj0,hj1,by omega,by omega⟩,h⟩,by show(8-(s+1)).toNat<(8-s).toNat;omega⟩
   |false=>
    rw[hb] at h
    rw[bne,hb]
    exact h
  ·rw[decide_eq_false hs]
   rw[show(8-s).toNat=0 by omega] at h
   exact h
theorem lokrd_6{S0:Spec}{l1 l2 l4 l6:LoopBy}(hS:SpecOK Tryz.prog 84 S0):LoopOK (ErdM S0 l1 l2 l4 l6 3) (lb Tryz.f30 6) [1,7,140,141,142] [2,3] rdG:=by
 refine loopOK (.cons okgro (.cons ok113 (.cons okclo (.cons ok115 (.cons ok116 (.cons ok100 (.cons okmin (.cons hS (.cons ok82 .nil))))))))) (fun b' hb=>by
  have hl:loopsOf (lb Tryz.f30 6)=[lb Tryz.f30 7]:=by kernel_rfl
  rw[hl] at hb
  simp only[List.mem_cons,List.not_mem_nil,or_false] at hb
  subst hb
  exact loopHyp_frm (E':=ErdM S0 l1 l2 l4 l6 1) (key:=46) (m:=1) (by kernel_rfl) rfl rfl (lokrd_7 hS)) (fun vs σ=>match vs,σ with
  |[.one (.ptr 0 1 0 0),.one (.own 1 8),.one (.own 2 1),.one (.int .i64 n),.one (.int .i64 i)],[.cells [.data (.mat .i64 8 _),.data (.mat .i64 8 _),.data (.ints .i64 _),.data (.ints .i64 _)],.row 22 (.mat .i64 8 _),.row 3 (.ints .i64 _)]=>(n-i).toNat
  |_,_=>0) fun vs σ k h=> ?_
 unfold rdG at h
 split at h
 rotate_right
 ·exact h.elim
 ·rename_i n i D P L Q O T
  rw[exrdl6a _ _ _ _ _ n i D P L Q O T _]
  obtain⟨⟨ho,h8,hok,p8,p4,hix,rfl,ht4,hi0⟩,h⟩:=h
  by_cases hi:i<(T.length:Int)
  ·have hw:IntKind.i64.wrap (i+1)=i+1:=wrap_id (by omega) (by omega)
   obtain⟨x1,x2⟩:=ix_get hix (show i.toNat<T.length by omega)
   have e0:T.getD (i.toNat+0) 0=T.getD i.toNat 0:=rfl
   have hxl:(T.getD i.toNat 0).toNat<P.length:=by omega
   have d1:decide (i<(T.length:Int))=true:=decide_eq_true hi
   have d2:decide (0≤i)=true:=decide_eq_true hi0
   have d5:decide (i.toNat+0<T.length)=true:=decide_eq_true (by omega)
   have d6:decide (0≤T.getD i.toNat 0)=true:=decide_eq_true x1
   have d7:decide (T.getD i.toNat 0<(P.length:Int))=true:=decide_eq_true x2
   have d11:decide ((T.getD i.toNat 0).toNat<P.length)=true:=decide_eq_true hxl
   rw[e0,hw,eta_r8 p8 hxl]
   simp only[d1,d2,d5,d6,d7,d11,show decide (7<8)=true by decide,Bool.and_self,cond_true]
   refine And.intro ⟨ho,h8,hok,x1,by omega,by decide,by decide⟩ ?_
   rw[drop_step 0 (by omega:i.toNat<T.length),List.all_cons,show i.toNat+1=(i+1).toNat by omega] at h
   have e3:parX O (T.getD i.toNat 0) (P.getD (T.getD i.toNat 0).toNat []) 8 0=parOk O P (T.getD i.toNat 0):=parX_fr O P _ 8 0
   rw[e3]
   cases hb:parOk O P (T.getD i.toNat 0) with
   |true=>rw[hb] at h;exact⟨⟨⟨ho,h8,hok,p8,p4,hix,rfl,ht4,by omega⟩,h⟩,by show((T.length:Int)-(i+1)).toNat<((T.length:Int)-i).toNat;omega⟩
   |false=>rw[hb] at h;exact h
  ·rw[decide_eq_false hi]
   rw[List.drop_eq_nil_of_le (by omega)] at h
   exact h
theorem lokrd1_2:LoopOK (Erd1 2) (lb Tryz.f30 2) [1,8,9,61,62,63] [9] rdC1:=by
 refine loopOK (.cons okgro (.cons ok113 (.cons okclo (.cons ok115 (.cons ok116 (.cons ok100 (.cons okmin (.cons oksl1 (.cons ok82 .nil))))))))) (fun b' hb=>by
  have hl:loopsOf (lb Tryz.f30 2)=[lb Tryz.f30 3]:=by kernel_rfl
  rw[hl] at hb
  simp only[List.mem_cons,List.not_mem_nil,or_false] at hb
  subst hb
  exact loopHyp_frm (E':=Erd1 0) (key:=23) (m:=0) (by kernel_rfl) rfl rfl (lokrd_3 oksl1)) (fun vs σ=>match vs,σ with
  |[.one (.ptr 0 1 0 0),.one (.int .i64 _),.one .nil,.one (.sub 1 1 0 _),.one (.int .i64 n),.one (.int .i64 r)],[.cells [.data (.mat .i64 8 _),.data (.mat .i64 8 _),.data (.ints .i64 _),.data (.ints .i64 _)],.row 3 (.ints .i64 _)]=>(n-r).toNat
  |[.one (.ptr 0 1 0 0),.one (.int .i64 _),.one (.own 2 1),.one (.sub 1 1 0 _),.one (.int .i64 n),.one (.int .i64 r)],[.cells [.data (.mat .i64 8 _),.data (.mat .i64 8 _),.data (.ints .i64 _),.data (.ints .i64 _)],.row 3 (.ints .i64 _),.cells [.own 3 1],.row 128 (.ints .i64 _)]=>(n-r).toNat
  |_,_=>0) fun vs σ k h=> ?_
 unfold rdC1 at h
 split at h
 rotate_right
 ·exact h.elim
 ·rename_i a n0 n r D P L Q T
  rw[exrdl2a _ _ _ _ _ a n0 n r D P L Q T _]
  obtain⟨⟨rfl,hr,ha0,ha1,rfl,rfl⟩,h⟩:=h
  have hln:=hr.ln
  have hkn:=hr.kn
  have hd1:=hr.d1
  have hp1:=hr.p1
  obtain⟨t1,t2⟩:=ix_get hr.ki (show 0<T.length by omega)
  have er:(0:Nat)+(0:Int).toNat+0=0:=rfl
  have ea:0+a.toNat+0=a.toNat:=by omega
  have hw:IntKind.i64.wrap ((0:Int)+1)=1:=by decide
  rw[er,ea,hw]
  refine condI (by decide) (condI (by decide) (condI (decide_eq_true (by omega)) (And.intro ⟨by omega,by omega,rfl,rfl,t1,by omega,ix12 hr.li hd1⟩ (condI (and2 (decide_eq_true t1) (decide_eq_true t2)) (condI (and2 (decide_eq_true ha0) (decide_eq_true (by omega))) (condI (and2 (decide_eq_true (by omega)) (decide_eq_true (by omega))) (And.intro ⟨by omega,by omega,t1,by omega,ha0,ha1,hr.d8,hr.kb⟩ (And.intro ⟨(modG_range _).1,(modG_range _).2,(parR_rngL _ _ _ _ _ _ (by omega)).1,(parR_rngL _ _ _ _ _ _ (by omega)).2⟩ (condI (by rw[eqR_len,hln];decide) ?_)))))))))
  exact⟨⟨⟨rfl,hr,ha0,ha1,rfl,rfl,rfl⟩,h⟩,by show((1:Int)-1).toNat<((1:Int)-0).toNat;decide⟩
 ·rename_i a n0 n r D P L Q T R0
  rw[exrd1l2b a n0 n r D P L Q T R0 _]
  obtain⟨⟨rfl,hr,ha0,ha1,rfl,rfl,rfl⟩,h⟩:=h
  exact h
theorem lokrd1_1:LoopOK (Erd1 3) (lb Tryz.f30 1) [1,5,7,54] [] rdB1:=by
 refine loopOK (.cons okgro (.cons ok113 (.cons okclo (.cons ok115 (.cons ok116 (.cons ok100 (.cons okmin (.cons oksl1 (.cons ok82 .nil))))))))) (fun b' hb=>by
  have hl:loopsOf (lb Tryz.f30 1)=[lb Tryz.f30 2,lb Tryz.f30 3,lb Tryz.f30 4]:=by kernel_rfl
  rw[hl] at hb
  simp only[List.mem_cons,List.not_mem_nil,or_false] at hb
  rcases hb with rfl|rfl|rfl
  ·exact loopHyp_frm (E':=Erd1 2) (key:=19) (m:=2) (by kernel_rfl) rfl rfl lokrd1_2
  ·exact loopHyp_frm (E':=Erd1 0) (key:=23) (m:=0) (by kernel_rfl) rfl rfl (lokrd_3 oksl1)
  ·exact loopHyp_frm (E':=Erd1 3) (key:=31) (m:=3) (by kernel_rfl) rfl rfl (lokrd_4 oksl1)) (fun vs σ=>match vs,σ with
  |[.one (.ptr 0 1 0 0),.one (.own 1 1),.one (.own 2 8),.one (.int .i64 a)],[.cells [.data (.mat .i64 8 _),.data (.mat .i64 8 _),.data (.ints .i64 _),.data (.ints .i64 _)],.row 3 (.ints .i64 _),.row 22 (.mat .i64 8 _)]=>(8-a).toNat
  |_,_=>0) fun vs σ k h=> ?_
 unfold rdB1 at h
 split at h
 rotate_right
 ·exact h.elim
 ·rename_i a D P L Q T O
  rw[exrd1l1a a D P L Q T O _]
  obtain⟨⟨hr,ho,ha0,ha1⟩,h⟩:=h
  by_cases ha:a<8
  ·have hw:IntKind.i64.wrap (a+1)=a+1:=wrap_id (by omega) (by omega)
   have hln:=hr.ln
   have hkn:=hr.kn
   have hok:=eqs_okSol hr a.toNat
   have hv:=solV_len hok
   have hv2:=solV_res hok
   rw[resF_step ha0 ha] at h
   have el:eqsF D P L T a.toNat=[eqR D P L (T.getD 0 0) a.toNat]:=eqs_list hr a.toNat
   rw[el] at hok hv hv2 h
   rw[decide_eq_true ha,cond_true,hw]
   have hv3:(solV [eqR D P L (T.getD 0 0) a.toNat]).length=1:=hv
   refine condI (and2 (decide_eq_true (by omega)) (and2 (decide_eq_true (by omega)) (decide_eq_true (by omega)))) (And.intro ⟨by omega,hr,ha0,by omega,by omega,rfl⟩ (And.intro hok fun X0=>And.intro ⟨ho.2,by rw[ho.1];exact hr.li,rfl,by omega,by omega,hv2,ha0,by omega,by omega,by omega⟩ ?_))
   exact⟨⟨⟨hr,put_out (O:=O) L _ a.toNat O ho hr.li,by omega,by omega⟩,h⟩,by show(8-(a+1)).toNat<(8-a).toNat;omega⟩
  ·rw[decide_eq_false ha]
   rw[show(8-a).toNat=0 by omega] at h
   exact h
theorem lokrd2_2:LoopOK (Erd2 2) (lb Tryz.f30 2) [1,8,9,61,62,63] [9] rdC2:=by
 refine loopOK (.cons okgro (.cons ok113 (.cons okclo (.cons ok115 (.cons ok116 (.cons ok100 (.cons okmin (.cons oksl2 (.cons ok82 .nil))))))))) (fun b' hb=>by
  have hl:loopsOf (lb Tryz.f30 2)=[lb Tryz.f30 3]:=by kernel_rfl
  rw[hl] at hb
  simp only[List.mem_cons,List.not_mem_nil,or_false] at hb
  subst hb
  exact loopHyp_frm (E':=Erd2 0) (key:=23) (m:=0) (by kernel_rfl) rfl rfl (lokrd_3 oksl2)) (fun vs σ=>match vs,σ with
  |[.one (.ptr 0 1 0 0),.one (.int .i64 _),.one .nil,.one (.sub 1 1 0 _),.one (.int .i64 n),.one (.int .i64 r)],[.cells [.data (.mat .i64 8 _),.data (.mat .i64 8 _),.data (.ints .i64 _),.data (.ints .i64 _)],.row 3 (.ints .i64 _)]=>(n-r).toNat
  |[.one (.ptr 0 1 0 0),.one (.int .i64 _),.one (.own 2 1),.one (.sub 1 1 0 _),.one (.int .i64 n),.one (.int .i64 r)],[.cells [.data (.mat .i64 8 _),.data (.mat .i64 8 _),.data (.ints .i64 _),.data (.ints .i64 _)],.row 3 (.ints .i64 _),.cells [.own 3 1],.row 128 (.ints .i64 _)]=>(n-r).toNat
  |[.one (.ptr 0 1 0 0),.one (.int .i64 _),.one (.own 2 1),.one (.sub 1 1 0 _),.one (.int .i64 n),.one (.int .i64 r)],[.cells [.data (.mat .i64 8 _),.data (.mat .i64 8 _),.data (.ints .i64 _),.data (.ints .i64 _)],.row 3 (.ints .i64 _),.cells [.own 3 1,.own 4 1],.row 128 (.ints .i64 _),.row 128 (.ints .i64 _)]=>(n-r).toNat
  |_,_=>0) fun vs σ k h=> ?_
 unfold rdC2 at h
 split at h
 rotate_right
 ·exact h.elim
 ·rename_i a n0 n r D P L Q T
  rw[exrdl2a _ _ _ _ _ a n0 n r D P L Q T _]
  obtain⟨⟨rfl,hr,ha0,ha1,rfl,rfl⟩,h⟩:=h
  have hln:=hr.ln
  have hkn:=hr.kn
  have hd1:=hr.d1
  have hp1:=hr.p1
  obtain⟨t1,t2⟩:=ix_get hr.ki (show 0<T.length by omega)
  have er:(0:Nat)+(0:Int).toNat+0=0:=rfl
  have ea:0+a.toNat+0=a.toNat:=by omega
  have hw:IntKind.i64.wrap ((0:Int)+1)=1:=by decide
  rw[er,ea,hw]
  refine condI (by decide) (condI (by decide) (condI (decide_eq_true (by omega)) (And.intro ⟨by omega,by omega,rfl,rfl,t1,by omega,ix12 hr.li hd1⟩ (condI (and2 (decide_eq_true t1) (decide_eq_true t2)) (condI (and2 (decide_eq_true ha0) (decide_eq_true (by omega))) (condI (and2 (decide_eq_true (by omega)) (decide_eq_true (by omega))) (And.intro ⟨by omega,by omega,t1,by omega,ha0,ha1,hr.d8,hr.kb⟩ (And.intro ⟨(modG_range _).1,(modG_range _).2,(parR_rngL _ _ _ _ _ _ (by omega)).1,(parR_rngL _ _ _ _ _ _ (by omega)).2⟩ (condI (by rw[eqR_len,hln];decide) ?_)))))))))
  exact⟨⟨⟨rfl,hr,ha0,ha1,rfl,rfl,rfl⟩,h⟩,by show((2:Int)-1).toNat<((2:Int)-0).toNat;decide⟩
 ·rename_i a n0 n r D P L Q T R0
  rw[exrdl2b _ _ _ _ _ a n0 n r D P L Q T R0 _]
  obtain⟨⟨rfl,hr,ha0,ha1,rfl,rfl,rfl⟩,h⟩:=h
  have hln:=hr.ln
  have hkn:=hr.kn
  have hd1:=hr.d1
  have hp1:=hr.p1
  obtain⟨t1,t2⟩:=ix_get hr.ki (show 1<T.length by omega)
  have er:(0:Nat)+(1:Int).toNat+0=1:=rfl
  have ea:0+a.toNat+0=a.toNat:=by omega
  have hw:IntKind.i64.wrap ((1:Int)+1)=2:=by decide
  rw[er,ea,hw]
  refine condI (by decide) (condI (by decide) (condI (decide_eq_true (by omega)) (And.intro ⟨by omega,by omega,rfl,rfl,t1,by omega,ix12 hr.li hd1⟩ (condI (and2 (decide_eq_true t1) (decide_eq_true t2)) (condI (and2 (decide_eq_true ha0) (decide_eq_true (by omega))) (condI (and2 (decide_eq_true (by omega)) (decide_eq_true (by omega))) (And.intro ⟨by omega,by omega,t1,by omega,ha0,ha1,hr.d8,hr.kb⟩ (And.intro ⟨(modG_range _).1,(modG_range _).2,(parR_rngL _ _ _ _ _ _ (by omega)).1,(parR_rngL _ _ _ _ _ _ (by omega)).2⟩ (condI (by rw[eqR_len,hln];decide) ?_)))))))))
  exact⟨⟨⟨rfl,hr,ha0,ha1,rfl,rfl,rfl,rfl⟩,h⟩,by show((2:Int)-2).toNat<((2:Int)-1).toNat;decide⟩
 ·rename_i a n0 n r D P L Q T R0 R1
  rw[exrd2l2c a n0 n r D P L Q T R0 R1 _]
  obtain⟨⟨rfl,hr,ha0,ha1,rfl,rfl,rfl,rfl⟩,h⟩:=h
  exact h
theorem lokrd2_1:LoopOK (Erd2 3) (lb Tryz.f30 1) [1,5,7,54] [] rdB2:=by
 refine loopOK (.cons okgro (.cons ok113 (.cons okclo (.cons ok115 (.cons ok116 (.cons ok100 (.cons okmin (.cons oksl2 (.cons ok82 .nil))))))))) (fun b' hb=>by
  have hl:loopsOf (lb Tryz.f30 1)=[lb Tryz.f30 2,lb Tryz.f30 3,lb Tryz.f30 4]:=by kernel_rfl
  rw[hl] at hb
  simp only[List.mem_cons,List.not_mem_nil,or_false] at hb
  rcases hb with rfl|rfl|rfl
  ·exact loopHyp_frm (E':=Erd2 2) (key:=19) (m:=2) (by kernel_rfl) rfl rfl lokrd2_2
  ·exact loopHyp_frm (E':=Erd2 0) (key:=23) (m:=0) (by kernel_rfl) rfl rfl (lokrd_3 oksl2)
  ·exact loopHyp_frm (E':=Erd2 3) (key:=31) (m:=3) (by kernel_rfl) rfl rfl (lokrd_4 oksl2)) (fun vs σ=>match vs,σ with
  |[.one (.ptr 0 1 0 0),.one (.own 1 1),.one (.own 2 8),.one (.int .i64 a)],[.cells [.data (.mat .i64 8 _),.data (.mat .i64 8 _),.data (.ints .i64 _),.data (.ints .i64 _)],.row 3 (.ints .i64 _),.row 22 (.mat .i64 8 _)]=>(8-a).toNat
  |_,_=>0) fun vs σ k h=> ?_
 unfold rdB2 at h
 split at h
 rotate_right
 ·exact h.elim
 ·rename_i a D P L Q T O
  rw[exrd2l1a a D P L Q T O _]
  obtain⟨⟨hr,ho,ha0,ha1⟩,h⟩:=h
  by_cases ha:a<8
  ·have hw:IntKind.i64.wrap (a+1)=a+1:=wrap_id (by omega) (by omega)
   have hln:=hr.ln
   have hkn:=hr.kn
   have hok:=eqs_okSol hr a.toNat
   have hv:=solV_len hok
   have hv2:=solV_res hok
   rw[resF_step ha0 ha] at h
   have el:eqsF D P L T a.toNat=[eqR D P L (T.getD 0 0) a.toNat,eqR D P L (T.getD 1 0) a.toNat]:=eqs_list hr a.toNat
   rw[el] at hok hv hv2 h
   rw[decide_eq_true ha,cond_true,hw]
   have hv3:(solV [eqR D P L (T.getD 0 0) a.toNat,eqR D P L (T.getD 1 0) a.toNat]).length=2:=hv
   refine condI (and2 (decide_eq_true (by omega)) (and2 (decide_eq_true (by omega)) (decide_eq_true (by omega)))) (And.intro ⟨by omega,hr,ha0,by omega,by omega,rfl⟩ (And.intro hok fun X0 X1=>And.intro ⟨ho.2,by rw[ho.1];exact hr.li,rfl,by omega,by omega,hv2,ha0,by omega,by omega,by omega⟩ ?_))
   exact⟨⟨⟨hr,put_out (O:=O) L _ a.toNat O ho hr.li,by omega,by omega⟩,h⟩,by show(8-(a+1)).toNat<(8-a).toNat;omega⟩
  ·rw[decide_eq_false ha]
   rw[show(8-a).toNat=0 by omega] at h
   exact h
theorem lokrd3_2:LoopOK (Erd3 2) (lb Tryz.f30 2) [1,8,9,61,62,63] [9] rdC3:=by
 refine loopOK (.cons okgro (.cons ok113 (.cons okclo (.cons ok115 (.cons ok116 (.cons ok100 (.cons okmin (.cons oksl3 (.cons ok82 .nil))))))))) (fun b' hb=>by
  have hl:loopsOf (lb Tryz.f30 2)=[lb Tryz.f30 3]:=by kernel_rfl
  rw[hl] at hb
  simp only[List.mem_cons,List.not_mem_nil,or_false] at hb
  subst hb
  exact loopHyp_frm (E':=Erd3 0) (key:=23) (m:=0) (by kernel_rfl) rfl rfl (lokrd_3 oksl3)) (fun vs σ=>match vs,σ with
  |[.one (.ptr 0 1 0 0),.one (.int .i64 _),.one .nil,.one (.sub 1 1 0 _),.one (.int .i64 n),.one (.int .i64 r)],[.cells [.data (.mat .i64 8 _),.data (.mat .i64 8 _),.data (.ints .i64 _),.data (.ints .i64 _)],.row 3 (.ints .i64 _)]=>(n-r).toNat
  |[.one (.ptr 0 1 0 0),.one (.int .i64 _),.one (.own 2 1),.one (.sub 1 1 0 _),.one (.int .i64 n),.one (.int .i64 r)],[.cells [.data (.mat .i64 8 _),.data (.mat .i64 8 _),.data (.ints .i64 _),.data (.ints .i64 _)],.row 3 (.ints .i64 _),.cells [.own 3 1],.row 128 (.ints .i64 _)]=>(n-r).toNat
  |[.one (.ptr 0 1 0 0),.one (.int .i64 _),.one (.own 2 1),.one (.sub 1 1 0 _),.one (.int .i64 n),.one (.int .i64 r)],[.cells [.data (.mat .i64 8 _),.data (.mat .i64 8 _),.data (.ints .i64 _),.data (.ints .i64 _)],.row 3 (.ints .i64 _),.cells [.own 3 1,.own 4 1],.row 128 (.ints .i64 _),.row 128 (.ints .i64 _)]=>(n-r).toNat
  |[.one (.ptr 0 1 0 0),.one (.int .i64 _),.one (.own 2 1),.one (.sub 1 1 0 _),.one (.int .i64 n),.one (.int .i64 r)],[.cells [.data (.mat .i64 8 _),.data (.mat .i64 8 _),.data (.ints .i64 _),.data (.ints .i64 _)],.row 3 (.ints .i64 _),.cells [.own 3 1,.own 4 1,.own 5 1],.row 128 (.ints .i64 _),.row 128 (.ints .i64 _),.row 128 (.ints .i64 _)]=>(n-r).toNat
  |_,_=>0) fun vs σ k h=> ?_
 unfold rdC3 at h
 split at h
 rotate_right
 ·exact h.elim
 ·rename_i a n0 n r D P L Q T
  rw[exrdl2a _ _ _ _ _ a n0 n r D P L Q T _]
  obtain⟨⟨rfl,hr,ha0,ha1,rfl,rfl⟩,h⟩:=h
  have hln:=hr.ln
  have hkn:=hr.kn
  have hd1:=hr.d1
  have hp1:=hr.p1
  obtain⟨t1,t2⟩:=ix_get hr.ki (show 0<T.length by omega)
  have er:(0:Nat)+(0:Int).toNat+0=0:=rfl
  have ea:0+a.toNat+0=a.toNat:=by omega
  have hw:IntKind.i64.wrap ((0:Int)+1)=1:=by decide
  rw[er,ea,hw]
  refine condI (by decide) (condI (by decide) (condI (decide_eq_true (by omega)) (And.intro ⟨by omega,by omega,rfl,rfl,t1,by omega,ix12 hr.li hd1⟩ (condI (and2 (decide_eq_true t1) (decide_eq_true t2)) (condI (and2 (decide_eq_true ha0) (decide_eq_true (by omega))) (condI (and2 (decide_eq_true (by omega)) (decide_eq_true (by omega))) (And.intro ⟨by omega,by omega,t1,by omega,ha0,ha1,hr.d8,hr.kb⟩ (And.intro ⟨(modG_range _).1,(modG_range _).2,(parR_rngL _ _ _ _ _ _ (by omega)).1,(parR_rngL _ _ _ _ _ _ (by omega)).2⟩ (condI (by rw[eqR_len,hln];decide) ?_)))))))))
  exact⟨⟨⟨rfl,hr,ha0,ha1,rfl,rfl,rfl⟩,h⟩,by show((3:Int)-1).toNat<((3:Int)-0).toNat;decide⟩
 ·rename_i a n0 n r D P L Q T R0
  rw[exrdl2b _ _ _ _ _ a n0 n r D P L Q T R0 _]
  obtain⟨⟨rfl,hr,ha0,ha1,rfl,rfl,rfl⟩,h⟩:=h
  have hln:=hr.ln
  have hkn:=hr.kn
  have hd1:=hr.d1
  have hp1:=hr.p1
  obtain⟨t1,t2⟩:=ix_get hr.ki (show 1<T.length by omega)
  have er:(0:Nat)+(1:Int).toNat+0=1:=rfl
  have ea:0+a.toNat+0=a.toNat:=by omega
  have hw:IntKind.i64.wrap ((1:Int)+1)=2:=by decide
  rw[er,ea,hw]
  refine condI (by decide) (condI (by decide) (condI (decide_eq_true (by omega)) (And.intro ⟨by omega,by omega,rfl,rfl,t1,by omega,ix12 hr.li hd1⟩ (condI (and2 (decide_eq_true t1) (decide_eq_true t2)) (condI (and2 (decide_eq_true ha0) (decide_eq_true (by omega))) (condI (and2 (decide_eq_true (by omega)) (decide_eq_true (by omega))) (And.intro ⟨by omega,by omega,t1,by omega,ha0,ha1,hr.d8,hr.kb⟩ (And.intro ⟨(modG_range _).1,(modG_range _).2,(parR_rngL _ _ _ _ _ _ (by omega)).1,(parR_rngL _ _ _ _ _ _ (by omega)).2⟩ (condI (by rw[eqR_len,hln];decide) ?_)))))))))
  exact⟨⟨⟨rfl,hr,ha0,ha1,rfl,rfl,rfl,rfl⟩,h⟩,by show((3:Int)-2).toNat<((3:Int)-1).toNat;decide⟩
 ·rename_i a n0 n r D P L Q T R0 R1
  rw[exrdl2c _ _ _ _ _ a n0 n r D P L Q T R0 R1 _]
  obtain⟨⟨rfl,hr,ha0,ha1,rfl,rfl,rfl,rfl⟩,h⟩:=h
  have hln:=hr.ln
  have hkn:=hr.kn
  have hd1:=hr.d1
  have hp1:=hr.p1
  obtain⟨t1,t2⟩:=ix_get hr.ki (show 2<T.length by omega)
  have er:(0:Nat)+(2:Int).toNat+0=2:=rfl
  have ea:0+a.toNat+0=a.toNat:=by omega
  have hw:IntKind.i64.wrap ((2:Int)+1)=3:=by decide
  rw[er,ea,hw]
  refine condI (by decide) (condI (by decide) (condI (decide_eq_true (by omega)) (And.intro ⟨by omega,by omega,rfl,rfl,t1,by omega,ix12 hr.li hd1⟩ (condI (and2 (decide_eq_true t1) (decide_eq_true t2)) (condI (and2 (decide_eq_true ha0) (decide_eq_true (by omega))) (condI (and2 (decide_eq_true (by omega)) (decide_eq_true (by omega))) (And.intro ⟨by omega,by omega,t1,by omega,ha0,ha1,hr.d8,hr.kb⟩ (And.intro ⟨(modG_range _).1,(modG_range _).2,(parR_rngL _ _ _ _ _ _ (by omega)).1,(parR_rngL _ _ _ _ _ _ (by omega)).2⟩ (condI (by rw[eqR_len,hln];decide) ?_)))))))))
  exact⟨⟨⟨rfl,hr,ha0,ha1,rfl,rfl,rfl,rfl,rfl⟩,h⟩,by show((3:Int)-3).toNat<((3:Int)-2).toNat;decide⟩
 ·rename_i a n0 n r D P L Q T R0 R1 R2
  rw[exrd3l2d a n0 n r D P L Q T R0 R1 R2 _]
  obtain⟨⟨rfl,hr,ha0,ha1,rfl,rfl,rfl,rfl,rfl⟩,h⟩:=h
  exact h
theorem lokrd3_1:LoopOK (Erd3 3) (lb Tryz.f30 1) [1,5,7,54] [] rdB3:=by
 refine loopOK (.cons okgro (.cons ok113 (.cons okclo (.cons ok115 (.cons ok116 (.cons ok100 (.cons okmin (.cons oksl3 (.cons ok82 .nil))))))))) (fun b' hb=>by
  have hl:loopsOf (lb Tryz.f30 1)=[lb Tryz.f30 2,lb Tryz.f30 3,lb Tryz.f30 4]:=by kernel_rfl
  rw[hl] at hb
  simp only[List.mem_cons,List.not_mem_nil,or_false] at hb
  rcases hb with rfl|rfl|rfl
  ·exact loopHyp_frm (E':=Erd3 2) (key:=19) (m:=2) (by kernel_rfl) rfl rfl lokrd3_2
  ·exact loopHyp_frm (E':=Erd3 0) (key:=23) (m:=0) (by kernel_rfl) rfl rfl (lokrd_3 oksl3)
  ·exact loopHyp_frm (E':=Erd3 3) (key:=31) (m:=3) (by kernel_rfl) rfl rfl (lokrd_4 oksl3)) (fun vs σ=>match vs,σ with
  |[.one (.ptr 0 1 0 0),.one (.own 1 1),.one (.own 2 8),.one (.int .i64 a)],[.cells [.data (.mat .i64 8 _),.data (.mat .i64 8 _),.data (.ints .i64 _),.data (.ints .i64 _)],.row 3 (.ints .i64 _),.row 22 (.mat .i64 8 _)]=>(8-a).toNat
  |_,_=>0) fun vs σ k h=> ?_
 unfold rdB3 at h
 split at h
 rotate_right
 ·exact h.elim
 ·rename_i a D P L Q T O
  rw[exrd3l1a a D P L Q T O _]
  obtain⟨⟨hr,ho,ha0,ha1⟩,h⟩:=h
  by_cases ha:a<8
  ·have hw:IntKind.i64.wrap (a+1)=a+1:=wrap_id (by omega) (by omega)
   have hln:=hr.ln
   have hkn:=hr.kn
   have hok:=eqs_okSol hr a.toNat
   have hv:=solV_len hok
   have hv2:=solV_res hok
   rw[resF_step ha0 ha] at h
   have el:eqsF D P L T a.toNat=[eqR D P L (T.getD 0 0) a.toNat,eqR D P L (T.getD 1 0) a.toNat,eqR D P L (T.getD 2 0) a.toNat]:=eqs_list hr a.toNat
   rw[el] at hok hv hv2 h
   rw[decide_eq_true ha,cond_true,hw]
   have hv3:(solV [eqR D P L (T.getD 0 0) a.toNat,eqR D P L (T.getD 1 0) a.toNat,eqR D P L (T.getD 2 0) a.toNat]).length=3:=hv
   refine condI (and2 (decide_eq_true (by omega)) (and2 (decide_eq_true (by omega)) (decide_eq_true (by omega)))) (And.intro ⟨by omega,hr,ha0,by omega,by omega,rfl⟩ (And.intro hok fun X0 X1 X2=>And.intro ⟨ho.2,by rw[ho.1];exact hr.li,rfl,by omega,by omega,hv2,ha0,by omega,by omega,by omega⟩ ?_))
   exact⟨⟨⟨hr,put_out (O:=O) L _ a.toNat O ho hr.li,by omega,by omega⟩,h⟩,by show(8-(a+1)).toNat<(8-a).toNat;omega⟩
  ·rw[decide_eq_false ha]
   rw[show(8-a).toNat=0 by omega] at h
   exact h
theorem lokrd4_2:LoopOK (Erd4 2) (lb Tryz.f30 2) [1,8,9,61,62,63] [9] rdC4:=by
 refine loopOK (.cons okgro (.cons ok113 (.cons okclo (.cons ok115 (.cons ok116 (.cons ok100 (.cons okmin (.cons oksl4 (.cons ok82 .nil))))))))) (fun b' hb=>by
  have hl:loopsOf (lb Tryz.f30 2)=[lb Tryz.f30 3]:=by kernel_rfl
  rw[hl] at hb
  simp only[List.mem_cons,List.not_mem_nil,or_false] at hb
  subst hb
  exact loopHyp_frm (E':=Erd4 0) (key:=23) (m:=0) (by kernel_rfl) rfl rfl (lokrd_3 oksl4)) (fun vs σ=>match vs,σ with
  |[.one (.ptr 0 1 0 0),.one (.int .i64 _),.one .nil,.one (.sub 1 1 0 _),.one (.int .i64 n),.one (.int .i64 r)],[.cells [.data (.mat .i64 8 _),.data (.mat .i64 8 _),.data (.ints .i64 _),.data (.ints .i64 _)],.row 3 (.ints .i64 _)]=>(n-r).toNat
  |[.one (.ptr 0 1 0 0),.one (.int .i64 _),.one (.own 2 1),.one (.sub 1 1 0 _),.one (.int .i64 n),.one (.int .i64 r)],[.cells [.data (.mat .i64 8 _),.data (.mat .i64 8 _),.data (.ints .i64 _),.data (.ints .i64 _)],.row 3 (.ints .i64 _),.cells [.own 3 1],.row 128 (.ints .i64 _)]=>(n-r).toNat
  |[.one (.ptr 0 1 0 0),.one (.int .i64 _),.one (.own 2 1),.one (.sub 1 1 0 _),.one (.int .i64 n),.one (.int .i64 r)],[.cells [.data (.mat .i64 8 _),.data (.mat .i64 8 _),.data (.ints .i64 _),.data (.ints .i64 _)],.row 3 (.ints .i64 _),.cells [.own 3 1,.own 4 1],.row 128 (.ints .i64 _),.row 128 (.ints .i64 _)]=>(n-r).toNat
  |[.one (.ptr 0 1 0 0),.one (.int .i64 _),.one (.own 2 1),.one (.sub 1 1 0 _),.one (.int .i64 n),.one (.int .i64 r)],[.cells [.data (.mat .i64 8 _),.data (.mat .i64 8 _),.data (.ints .i64 _),.data (.ints .i64 _)],.row 3 (.ints .i64 _),.cells [.own 3 1,.own 4 1,.own 5 1],.row 128 (.ints .i64 _),.row 128 (.ints .i64 _),.row 128 (.ints .i64 _)]=>(n-r).toNat
  |[.one (.ptr 0 1 0 0),.one (.int .i64 _),.one (.own 2 1),.one (.sub 1 1 0 _),.one (.int .i64 n),.one (.int .i64 r)],[.cells [.data (.mat .i64 8 _),.data (.mat .i64 8 _),.data (.ints .i64 _),.data (.ints .i64 _)],.row 3 (.ints .i64 _),.cells [.own 3 1,.own 4 1,.own 5 1,.own 6 1],.row 128 (.ints .i64 _),.row 128 (.ints .i64 _),.row 128 (.ints .i64 _),.row 128 (.ints .i64 _)]=>(n-r).toNat
  |_,_=>0) fun vs σ k h=> ?_
 unfold rdC4 at h
 split at h
 rotate_right
 ·exact h.elim
 ·rename_i a n0 n r D P L Q T
  rw[exrdl2a _ _ _ _ _ a n0 n r D P L Q T _]
  obtain⟨⟨rfl,hr,ha0,ha1,rfl,rfl⟩,h⟩:=h
  have hln:=hr.ln
  have hkn:=hr.kn
  have hd1:=hr.d1
  have hp1:=hr.p1
  obtain⟨t1,t2⟩:=ix_get hr.ki (show 0<T.length by omega)
  have er:(0:Nat)+(0:Int).toNat+0=0:=rfl
  have ea:0+a.toNat+0=a.toNat:=by omega
  have hw:IntKind.i64.wrap ((0:Int)+1)=1:=by decide
  rw[er,ea,hw]
  refine condI (by decide) (condI (by decide) (condI (decide_eq_true (by omega)) (And.intro ⟨by omega,by omega,rfl,rfl,t1,by omega,ix12 hr.li hd1⟩ (condI (and2 (decide_eq_true t1) (decide_eq_true t2)) (condI (and2 (decide_eq_true ha0) (decide_eq_true (by omega))) (condI (and2 (decide_eq_true (by omega)) (decide_eq_true (by omega))) (And.intro ⟨by omega,by omega,t1,by omega,ha0,ha1,hr.d8,hr.kb⟩ (And.intro ⟨(modG_range _).1,(modG_range _).2,(parR_rngL _ _ _ _ _ _ (by omega)).1,(parR_rngL _ _ _ _ _ _ (by omega)).2⟩ (condI (by rw[eqR_len,hln];decide) ?_)))))))))
  exact⟨⟨⟨rfl,hr,ha0,ha1,rfl,rfl,rfl⟩,h⟩,by show((4:Int)-1).toNat<((4:Int)-0).toNat;decide⟩
 ·rename_i a n0 n r D P L Q T R0
  rw[exrdl2b _ _ _ _ _ a n0 n r D P L Q T R0 _]
  obtain⟨⟨rfl,hr,ha0,ha1,rfl,rfl,rfl⟩,h⟩:=h
  have hln:=hr.ln
  have hkn:=hr.kn
  have hd1:=hr.d1
  have hp1:=hr.p1
  obtain⟨t1,t2⟩:=ix_get hr.ki (show 1<T.length by omega)
  have er:(0:Nat)+(1:Int).toNat+0=1:=rfl
  have ea:0+a.toNat+0=a.toNat:=by omega
  have hw:IntKind.i64.wrap ((1:Int)+1)=2:=by decide
  rw[er,ea,hw]
  refine condI (by decide) (condI (by decide) (condI (decide_eq_true (by omega)) (And.intro ⟨by omega,by omega,rfl,rfl,t1,by omega,ix12 hr.li hd1⟩ (condI (and2 (decide_eq_true t1) (decide_eq_true t2)) (condI (and2 (decide_eq_true ha0) (decide_eq_true (by omega))) (condI (and2 (decide_eq_true (by omega)) (decide_eq_true (by omega))) (And.intro ⟨by omega,by omega,t1,by omega,ha0,ha1,hr.d8,hr.kb⟩ (And.intro ⟨(modG_range _).1,(modG_range _).2,(parR_rngL _ _ _ _ _ _ (by omega)).1,(parR_rngL _ _ _ _ _ _ (by omega)).2⟩ (condI (by rw[eqR_len,hln];decide) ?_)))))))))
  exact⟨⟨⟨rfl,hr,ha0,ha1,rfl,rfl,rfl,rfl⟩,h⟩,by show((4:Int)-2).toNat<((4:Int)-1).toNat;decide⟩
 ·rename_i a n0 n r D P L Q T R0 R1
  rw[exrdl2c _ _ _ _ _ a n0 n r D P L Q T R0 R1 _]
  obtain⟨⟨rfl,hr,ha0,ha1,rfl,rfl,rfl,rfl⟩,h⟩:=h
  have hln:=hr.ln
  have hkn:=hr.kn
  have hd1:=hr.d1
  have hp1:=hr.p1
  obtain⟨t1,t2⟩:=ix_get hr.ki (show 2<T.length by omega)
  have er:(0:Nat)+(2:Int).toNat+0=2:=rfl
  have ea:0+a.toNat+0=a.toNat:=by omega
  have hw:IntKind.i64.wrap ((2:Int)+1)=3:=by decide
  rw[er,ea,hw]
  refine condI (by decide) (condI (by decide) (condI (decide_eq_true (by omega)) (And.intro ⟨by omega,by omega,rfl,rfl,t1,by omega,ix12 hr.li hd1⟩ (condI (and2 (decide_eq_true t1) (decide_eq_true t2)) (condI (and2 (decide_eq_true ha0) (decide_eq_true (by omega))) (condI (and2 (decide_eq_true (by omega)) (decide_eq_true (by omega))) (And.intro ⟨by omega,by omega,t1,by omega,ha0,ha1,hr.d8,hr.kb⟩ (And.intro ⟨(modG_range _).1,(modG_range _).2,(parR_rngL _ _ _ _ _ _ (by omega)).1,(parR_rngL _ _ _ _ _ _ (by omega)).2⟩ (condI (by rw[eqR_len,hln];decide) ?_)))))))))
  exact⟨⟨⟨rfl,hr,ha0,ha1,rfl,rfl,rfl,rfl,rfl⟩,h⟩,by show((4:Int)-3).toNat<((4:Int)-2).toNat;decide⟩
 ·rename_i a n0 n r D P L Q T R0 R1 R2
  rw[exrdl2d _ _ _ _ _ a n0 n r D P L Q T R0 R1 R2 _]
  obtain⟨⟨rfl,hr,ha0,ha1,rfl,rfl,rfl,rfl,rfl⟩,h⟩:=h
  have hln:=hr.ln
  have hkn:=hr.kn
  have hd1:=hr.d1
  have hp1:=hr.p1
  obtain⟨t1,t2⟩:=ix_get hr.ki (show 3<T.length by omega)
  have er:(0:Nat)+(3:Int).toNat+0=3:=rfl
  have ea:0+a.toNat+0=a.toNat:=by omega
  have hw:IntKind.i64.wrap ((3:Int)+1)=4:=by decide
  rw[er,ea,hw]
  refine condI (by decide) (condI (by decide) (condI (decide_eq_true (by omega)) (And.intro ⟨by omega,by omega,rfl,rfl,t1,by omega,ix12 hr.li hd1⟩ (condI (and2 (decide_eq_true t1) (decide_eq_true t2)) (condI (and2 (decide_eq_true ha0) (decide_eq_true (by omega))) (condI (and2 (decide_eq_true (by omega)) (decide_eq_true (by omega))) (And.intro ⟨by omega,by omega,t1,by omega,ha0,ha1,hr.d8,hr.kb⟩ (And.intro ⟨(modG_range _).1,(modG_range _).2,(parR_rngL _ _ _ _ _ _ (by omega)).1,(parR_rngL _ _ _ _ _ _ (by omega)).2⟩ (condI (by rw[eqR_len,hln];decide) ?_)))))))))
  exact⟨⟨⟨rfl,hr,ha0,ha1,rfl,rfl,rfl,rfl,rfl,rfl⟩,h⟩,by show((4:Int)-4).toNat<((4:Int)-3).toNat;decide⟩
 ·rename_i a n0 n r D P L Q T R0 R1 R2 R3
  rw[exrd4l2e a n0 n r D P L Q T R0 R1 R2 R3 _]
  obtain⟨⟨rfl,hr,ha0,ha1,rfl,rfl,rfl,rfl,rfl,rfl⟩,h⟩:=h
  exact h
theorem lokrd4_1:LoopOK (Erd4 3) (lb Tryz.f30 1) [1,5,7,54] [] rdB4:=by
 refine loopOK (.cons okgro (.cons ok113 (.cons okclo (.cons ok115 (.cons ok116 (.cons ok100 (.cons okmin (.cons oksl4 (.cons ok82 .nil))))))))) (fun b' hb=>by
  have hl:loopsOf (lb Tryz.f30 1)=[lb Tryz.f30 2,lb Tryz.f30 3,lb Tryz.f30 4]:=by kernel_rfl
  rw[hl] at hb
  simp only[List.mem_cons,List.not_mem_nil,or_false] at hb
  rcases hb with rfl|rfl|rfl
  ·exact loopHyp_frm (E':=Erd4 2) (key:=19) (m:=2) (by kernel_rfl) rfl rfl lokrd4_2
  ·exact loopHyp_frm (E':=Erd4 0) (key:=23) (m:=0) (by kernel_rfl) rfl rfl (lokrd_3 oksl4)
  ·exact loopHyp_frm (E':=Erd4 3) (key:=31) (m:=3) (by kernel_rfl) rfl rfl (lokrd_4 oksl4)) (fun vs σ=>match vs,σ with
  |[.one (.ptr 0 1 0 0),.one (.own 1 1),.one (.own 2 8),.one (.int .i64 a)],[.cells [.data (.mat .i64 8 _),.data (.mat .i64 8 _),.data (.ints .i64 _),.data (.ints .i64 _)],.row 3 (.ints .i64 _),.row 22 (.mat .i64 8 _)]=>(8-a).toNat
  |_,_=>0) fun vs σ k h=> ?_
 unfold rdB4 at h
 split at h
 rotate_right
 ·exact h.elim
 ·rename_i a D P L Q T O
  rw[exrd4l1a a D P L Q T O _]
  obtain⟨⟨hr,ho,ha0,ha1⟩,h⟩:=h
  by_cases ha:a<8
  ·have hw:IntKind.i64.wrap (a+1)=a+1:=wrap_id (by omega) (by omega)
   have hln:=hr.ln
   have hkn:=hr.kn
   have hok:=eqs_okSol hr a.toNat
   have hv:=solV_len hok
   have hv2:=solV_res hok
   rw[resF_step ha0 ha] at h
   have el:eqsF D P L T a.toNat=[eqR D P L (T.getD 0 0) a.toNat,eqR D P L (T.getD 1 0) a.toNat,eqR D P L (T.getD 2 0) a.toNat,eqR D P L (T.getD 3 0) a.toNat]:=eqs_list hr a.toNat
   rw[el] at hok hv hv2 h
   rw[decide_eq_true ha,cond_true,hw]
   have hv3:(solV [eqR D P L (T.getD 0 0) a.toNat,eqR D P L (T.getD 1 0) a.toNat,eqR D P L (T.getD 2 0) a.toNat,eqR D P L (T.getD 3 0) a.toNat]).length=4:=hv
   refine condI (and2 (decide_eq_true (by omega)) (and2 (decide_eq_true (by omega)) (decide_eq_true (by omega)))) (And.intro ⟨by omega,hr,ha0,by omega,by omega,rfl⟩ (And.intro hok fun X0 X1 X2 X3=>And.intro ⟨ho.2,by rw[ho.1];exact hr.li,rfl,by omega,by omega,hv2,ha0,by omega,by omega,by omega⟩ ?_))
   exact⟨⟨⟨hr,put_out (O:=O) L _ a.toNat O ho hr.li,by omega,by omega⟩,h⟩,by show(8-(a+1)).toNat<(8-a).toNat;omega⟩
  ·rw[decide_eq_false ha]
   rw[show(8-a).toNat=0 by omega] at h
   exact h
end Go.Ev
