/-
  Part of the proof that TopTransferMended holds.
-/
import Derived.Test.YtmailpnpjcpodaaGreatDoorT24
set_option linter.unusedVariables false
set_option linter.unusedSimpArgs false
set_option linter.unusedSectionVars false
namespace Go.Ev
open Go Go.Proofs
attribute [local irreducible] evFn evBody evRound
set_option maxRecDepth 20000
theorem condI{b:Bool}{p q:Prop}(h:b=true)(hp:p):bif b then p else q:=by rw[h];exact hp
theorem resG_iff{n:Int}:resG n=true↔0≤n∧n<65537:=by
 unfold resG withinG
 simp only[Bool.and_eq_true,decide_eq_true_eq]
 omega
theorem res_get{R:List Int}(h:resRow R=true)(i:Nat):0≤R.getD i 0∧R.getD i 0<65537:=by
 by_cases hi:i<R.length
 ·rw[getD_of_lt hi];exact resG_iff.1 (List.all_eq_true.1 h _ (List.getElem_mem hi))
 ·rw[List.getD,List.getElem?_eq_none (by omega)];exact⟨by decide,by decide⟩
theorem res_mod(n:Int):resG (modG n)=true:=resG_iff.2 (modG_range n)
theorem scR_len(R:List Int)(s:Int):(scR R s).length=R.length:=List.length_map _
theorem scR_res(R:List Int)(s:Int):resRow (scR R s)=true:=by
 unfold resRow scR
 rw[List.all_map]
 exact List.all_eq_true.2 fun x _=>res_mod _
theorem elR_len: ∀(P R:List Int) (b:Int),P.length=R.length→(elR P R b).length=R.length
 |[],[],_,_=>rfl
 |_::P,_::R,b,h=>by
  have:=elR_len P R b (by simpa using h)
  simp only[elR,List.length_cons,this]
theorem elR_res: ∀(P R:List Int) (b:Int),resRow (elR P R b)=true
 |[],_,_=>rfl
 |_::_,[],_=>rfl
 |p::P,r::R,b=>by
  have:=elR_res P R b
  unfold resRow at this ⊢
  rw[elR,List.all_cons,this,res_mod];rfl
theorem scR_ok{n:Nat}{R:List Int}(s:Int)(h:okRw n R):okRw n (scR R s):=⟨by rw[scR_len];exact h.1,scR_res R s⟩
theorem elR_ok{n:Nat}{P R:List Int}(b:Int)(hP:okRw n P)(h:okRw n R):okRw n (elR P R b):=⟨by rw[elR_len _ _ _ (by rw[hP.1,h.1])];exact h.1,elR_res P R b⟩
theorem stp_len(c:Nat)(rows:List (List Int)):(stp c rows).length=rows.length:=by simp[stp]
theorem getD_mem{α:Type}{l:List α}{i:Nat}{d:α}(h:i<l.length):l.getD i d ∈ l:=by
 rw[List.getD_eq_getElem?_getD,List.getElem?_eq_getElem h];exact List.getElem_mem h
theorem stp_ok{c:Nat}{rows:List (List Int)}(h:okSol rows)(hc:c<rows.length):okSol (stp c rows):=by
 intro R hR
 rw[stp_len]
 unfold stp at hR
 obtain⟨r,hr,rfl⟩:=List.mem_map.1 hR
 have hr':r<rows.length:=by simpa using hr
 have pc:okRw rows.length (rows.getD c []):=h _ (getD_mem hc)
 have pr:okRw rows.length (rows.getD r []):=h _ (getD_mem hr')
 cases r==c with
 |true=>exact scR_ok _ pc
 |false=>exact elR_ok _ (scR_ok _ pc) pr
theorem solF_ok: ∀(f c:Nat) (rows:List (List Int)),okSol rows→c+f≤rows.length→okSol (solF f c rows)∧(solF f c rows).length=rows.length
 |0,_,_,h,_=>⟨h,rfl⟩
 |f+1,c,rows,h,hc=>by
  obtain⟨a,b⟩:=solF_ok f (c+1) (stp c rows) (stp_ok h (by omega)) (by rw[stp_len];omega)
  exact⟨a,by rw[solF,b,stp_len]⟩
theorem okmin:SpecOK Tryz.prog 83 minusS:=by
 refine specOK (n:=9) (m:=0) (lps:=[]) (.cons ok116 .nil) Tryz.func83 (by kernel_rfl) (by kernel_rfl) (noLoops (by kernel_rfl)) fun args σ K h=> ?_
 unfold minusS at h
 split at h
 rotate_right
 ·exact h.elim
 rename_i a b
 rw[exmin a b K]
 obtain⟨⟨h1,h2,h3,h4⟩,h⟩:=h
 rw[wrap_id (by omega) (by omega)]
 exact h
theorem okinv2:SpecOK Tryz.prog 87 inv2S:=ok98.weak fun args σ K h=>by
 unfold inv2S at h
 split at h
 ·exact⟨h.1,h.2 _ rfl⟩
 ·exact h.elim
theorem mul_res{a b:Int}(ha:0≤a∧a<65537)(hb:0≤b∧b<65537):IntKind.i64.wrap (a*b)=a*b:=by
 have h1:0≤a*b:=Int.mul_nonneg ha.1 hb.1
 have h2:a*b≤65536*65536:=Int.mul_le_mul (by omega) (by omega) hb.1 (by decide)
 exact wrap_id (by omega) (by omega)
theorem scRW_eq{R:List Int}{s:Int}(h:resRow R=true)(hs:0≤s∧s<65537):scRW R s=scR R s:=
 List.map_congr_left fun x hx=>by rw[mul_res (resG_iff.1 (List.all_eq_true.1 h x hx)) hs]
theorem elRW_eq: ∀{P R:List Int} {b:Int},resRow P=true→resRow R=true→(0≤b∧b<65537)→elRW P R b=elR P R b
 |[],_,_,_,_,_=>rfl
 |_::_,[],_,_,_,_=>rfl
 |p::P,r::R,b,hP,hR,hb=>by
  unfold resRow at hP hR
  rw[List.all_cons,Bool.and_eq_true] at hP hR
  have hr:=resG_iff.1 hR.1
  have hm:=modG_range (b*p)
  show modG (IntKind.i64.wrap (r-modG (IntKind.i64.wrap (b*p))))::elRW P R b=modG (r-modG (b*p))::elR P R b
  rw[elRW_eq hP.2 hR.2 hb,mul_res hb (resG_iff.1 hP.1),wrap_id (n:=r-modG (b*p)) (by omega) (by omega)]
theorem stpW_eq{c:Nat}{rows:List (List Int)}(h:okSol rows)(hc:c<rows.length):stpW c rows=stp c rows:=by
 have hC:=(h _ (getD_mem (d:=[]) hc)).2
 have hs:=(inv_ref (res_get hC c)).2.2
 refine List.map_congr_left fun r hr=> ?_
 have hr':r<rows.length:=by simpa using hr
 have hR:=(h _ (getD_mem (d:=[]) hr')).2
 rw[scRW_eq hC hs,elRW_eq (scR_res _ _) hR (res_get hR c)]
theorem ex_2{R:List Int}(h:R.length=2): ∃a b,R=[a,b]:=
 match R,h with
 |[a,b],_=>⟨_,_,rfl⟩
theorem ex_3{R:List Int}(h:R.length=3): ∃a b c,R=[a,b,c]:=
 match R,h with
 |[a,b,c],_=>⟨_,_,_,rfl⟩
theorem ex_4{R:List Int}(h:R.length=4): ∃a b c d,R=[a,b,c,d]:=
 match R,h with
 |[a,b,c,d],_=>⟨_,_,_,_,rfl⟩
theorem ex_5{R:List Int}(h:R.length=5): ∃a b c d e,R=[a,b,c,d,e]:=
 match R,h with
 |[a,b,c,d,e],_=>⟨_,_,_,_,_,rfl⟩
theorem oktmw:SpecOK Tryz.prog 107 timesW:=by
 refine specOK (n:=9) (m:=0) (lps:=[]) (.cons ok116 .nil) Tryz.func107 (by kernel_rfl) (by kernel_rfl) (noLoops (by kernel_rfl)) fun args σ K h=> ?_
 unfold timesW at h
 split at h
 rotate_right
 ·exact h.elim
 rename_i a b
 rw[extmw a b K]
 exact h
theorem okmnw:SpecOK Tryz.prog 83 minusW:=by
 refine specOK (n:=9) (m:=0) (lps:=[]) (.cons ok116 .nil) Tryz.func83 (by kernel_rfl) (by kernel_rfl) (noLoops (by kernel_rfl)) fun args σ K h=> ?_
 unfold minusW at h
 split at h
 rotate_right
 ·exact h.elim
 rename_i a b
 rw[exmnw a b K]
 exact h
theorem loksl1_0:LoopOK Esl1F2 (lb Tryz.f84 0) [0,15,16] [] slA1:=by
 refine loopOK (.cons okinv2 (.cons oktmw (.cons okmnw .nil))) (fun b' hb=>by
  have hl:loopsOf (lb Tryz.f84 0)=[lb Tryz.f84 1,lb Tryz.f84 2,lb Tryz.f84 3]:=by kernel_rfl
  rw[hl] at hb
  simp only[List.mem_cons,List.not_mem_nil,or_false] at hb
  rcases hb with rfl|rfl|rfl
  ·exact loopHyp_none (key:=8) (n:=3) (by kernel_rfl) rfl
  ·exact loopHyp_none (key:=13) (n:=2) (by kernel_rfl) rfl
  ·exact loopHyp_none (key:=18) (n:=3) (by kernel_rfl) rfl) (fun vs σ=>match vs,σ with
  |[.one (.own 0 1),.one (.int .i64 n),.one (.int .i64 c)],[.cells [.own 1 1],.row 128 (.ints .i64 _)]=>(n-c).toNat
  |_,_=>0) fun vs σ k h=> ?_
 unfold slA1 at h
 split at h
 rotate_right
 ·exact h.elim
 ·rename_i n c R0
  obtain⟨⟨rfl,hok,h1,h2⟩,h⟩:=h
  have hc:c=0∨c=1:=by omega
  rcases hc with rfl|rfl
  ·obtain⟨r00,r01,rfl⟩:=ex_2 (hok R0 (by simp)).1
   rw[exsl1c0]
   have rg:=res_get (hok _ (getD_mem (i:=0) (d:=[]) (by simp))).2 0
   refine And.intro rg fun s hs=> ?_
   cases hs
   have e:=stpW_eq (c:=0) hok (by simp)
   have o:=stp_ok (c:=0) hok (by simp)
   rw[← e] at o
   have hk: ∀X,X=stp 0 [[r00,r01]]→k (.exit 0) [] [.cells [.own 1 1],.row 128 (.ints .i64 ((solF 0 1 X).getD 0 []))]:=fun X hX=>by rw[hX];exact h
   exact⟨⟨⟨rfl,o,by decide,by decide⟩,hk _ e⟩,by show((1:Int)-1).toNat<((1:Int)-0).toNat;decide⟩
  ·rw[exsl1c1]
   exact h
theorem oksl1:SpecOK Tryz.prog 84 slS1:=by
 refine specOK (n:=95) (m:=2) (lps:=[(3,.frm 2 [0,15,16] [] slA1),(8,.unroll 3),(13,.unroll 2),(18,.unroll 3),(25,.unroll 2)]) (.cons okinv2 (.cons oktmw (.cons okmnw .nil))) Tryz.func84 (by kernel_rfl) (by kernel_rfl) (theLoops (n:=5) (by kernel_rfl) fun i hi=> ?_) fun args σ K h=> ?_
 ·match i,hi with
  |0,_=>exact loopHyp_frm (E':=Esl1F2) (key:=3) (m:=2) (by kernel_rfl) rfl rfl loksl1_0
  |1,_=>exact loopHyp_none (key:=8) (n:=3) (by kernel_rfl) rfl
  |2,_=>exact loopHyp_none (key:=13) (n:=2) (by kernel_rfl) rfl
  |3,_=>exact loopHyp_none (key:=18) (n:=3) (by kernel_rfl) rfl
  |4,_=>exact loopHyp_none (key:=25) (n:=2) (by kernel_rfl) rfl
 unfold slS1 at h
 split at h
 rotate_right
 ·exact h.elim
 rename_i R0
 rw[exsl1 R0 K]
 obtain⟨hok,h⟩:=h
 refine And.intro ⟨rfl,hok,by decide,by decide⟩ ?_
 obtain⟨hT1,hT2⟩:=solF_ok 1 0 [R0] hok (by simp)
 have e:solV [R0]=(solF 1 0 [R0]).map fun R=>R.getD 1 0:=rfl
 rw[e] at h
 generalize solF 1 0 [R0]=T at *
 match T,hT2,hT1,h with
 |[t0],_,hT1,h=>
  have l0:t0.length=2:=(hT1 t0 (by simp)).1
  refine condI (by simp only[List.getD_cons_zero,List.getD_cons_succ,l0];decide) (condI (by simp only[List.getD_cons_zero,List.getD_cons_succ,l0];decide) (h t0))
theorem loksl2_0:LoopOK Esl2F3 (lb Tryz.f84 0) [0,15,16] [] slA2:=by
 refine loopOK (.cons okinv2 (.cons oktmw (.cons okmnw .nil))) (fun b' hb=>by
  have hl:loopsOf (lb Tryz.f84 0)=[lb Tryz.f84 1,lb Tryz.f84 2,lb Tryz.f84 3]:=by kernel_rfl
  rw[hl] at hb
  simp only[List.mem_cons,List.not_mem_nil,or_false] at hb
  rcases hb with rfl|rfl|rfl
  ·exact loopHyp_none (key:=8) (n:=4) (by kernel_rfl) rfl
  ·exact loopHyp_none (key:=13) (n:=3) (by kernel_rfl) rfl
  ·exact loopHyp_none (key:=18) (n:=4) (by kernel_rfl) rfl) (fun vs σ=>match vs,σ with
  |[.one (.own 0 1),.one (.int .i64 n),.one (.int .i64 c)],[.cells [.own 1 1,.own 2 1],.row 128 (.ints .i64 _),.row 128 (.ints .i64 _)]=>(n-c).toNat
  |_,_=>0) fun vs σ k h=> ?_
 unfold slA2 at h
 split at h
 rotate_right
 ·exact h.elim
 ·rename_i n c R0 R1
  obtain⟨⟨rfl,hok,h1,h2⟩,h⟩:=h
  have hc:c=0∨c=1∨c=2:=by omega
  rcases hc with rfl|rfl|rfl
  ·obtain⟨r00,r01,r02,rfl⟩:=ex_3 (hok R0 (by simp)).1
   obtain⟨r10,r11,r12,rfl⟩:=ex_3 (hok R1 (by simp)).1
   rw[exsl2c0]
   have rg:=res_get (hok _ (getD_mem (i:=0) (d:=[]) (by simp))).2 0
   refine And.intro rg fun s hs=> ?_
   cases hs
   have e:=stpW_eq (c:=0) hok (by simp)
   have o:=stp_ok (c:=0) hok (by simp)
   rw[← e] at o
   have hk: ∀X,X=stp 0 [[r00,r01,r02],[r10,r11,r12]]→k (.exit 0) [] [.cells [.own 1 1,.own 2 1],.row 128 (.ints .i64 ((solF 1 1 X).getD 0 [])),.row 128 (.ints .i64 ((solF 1 1 X).getD 1 []))]:=fun X hX=>by rw[hX];exact h
   exact⟨⟨⟨rfl,o,by decide,by decide⟩,hk _ e⟩,by show((2:Int)-1).toNat<((2:Int)-0).toNat;decide⟩
  ·obtain⟨r00,r01,r02,rfl⟩:=ex_3 (hok R0 (by simp)).1
   obtain⟨r10,r11,r12,rfl⟩:=ex_3 (hok R1 (by simp)).1
   rw[exsl2c1]
   have rg:=res_get (hok _ (getD_mem (i:=1) (d:=[]) (by simp))).2 1
   refine And.intro rg fun s hs=> ?_
   cases hs
   have e:=stpW_eq (c:=1) hok (by simp)
   have o:=stp_ok (c:=1) hok (by simp)
   rw[← e] at o
   have hk: ∀X,X=stp 1 [[r00,r01,r02],[r10,r11,r12]]→k (.exit 0) [] [.cells [.own 1 1,.own 2 1],.row 128 (.ints .i64 ((solF 0 2 X).getD 0 [])),.row 128 (.ints .i64 ((solF 0 2 X).getD 1 []))]:=fun X hX=>by rw[hX];exact h
   exact⟨⟨⟨rfl,o,by decide,by decide⟩,hk _ e⟩,by show((2:Int)-2).toNat<((2:Int)-1).toNat;decide⟩
  ·rw[exsl2c2]
   exact h
theorem oksl2:SpecOK Tryz.prog 84 slS2:=by
 refine specOK (n:=95) (m:=3) (lps:=[(3,.frm 3 [0,15,16] [] slA2),(8,.unroll 4),(13,.unroll 3),(18,.unroll 4),(25,.unroll 3)]) (.cons okinv2 (.cons oktmw (.cons okmnw .nil))) Tryz.func84 (by kernel_rfl) (by kernel_rfl) (theLoops (n:=5) (by kernel_rfl) fun i hi=> ?_) fun args σ K h=> ?_
 ·match i,hi with
  |0,_=>exact loopHyp_frm (E':=Esl2F3) (key:=3) (m:=3) (by kernel_rfl) rfl rfl loksl2_0
  |1,_=>exact loopHyp_none (key:=8) (n:=4) (by kernel_rfl) rfl
  |2,_=>exact loopHyp_none (key:=13) (n:=3) (by kernel_rfl) rfl
  |3,_=>exact loopHyp_none (key:=18) (n:=4) (by kernel_rfl) rfl
  |4,_=>exact loopHyp_none (key:=25) (n:=3) (by kernel_rfl) rfl
 unfold slS2 at h
 split at h
 rotate_right
 ·exact h.elim
 rename_i R0 R1
 rw[exsl2 R0 R1 K]
 obtain⟨hok,h⟩:=h
 refine And.intro ⟨rfl,hok,by decide,by decide⟩ ?_
 obtain⟨hT1,hT2⟩:=solF_ok 2 0 [R0,R1] hok (by simp)
 have e:solV [R0,R1]=(solF 2 0 [R0,R1]).map fun R=>R.getD 2 0:=rfl
 rw[e] at h
 generalize solF 2 0 [R0,R1]=T at *
 match T,hT2,hT1,h with
 |[t0,t1],_,hT1,h=>
  have l0:t0.length=3:=(hT1 t0 (by simp)).1
  have l1:t1.length=3:=(hT1 t1 (by simp)).1
  refine condI (by simp only[List.getD_cons_zero,List.getD_cons_succ,l0,l1];decide) (condI (by simp only[List.getD_cons_zero,List.getD_cons_succ,l0,l1];decide) (condI (by simp only[List.getD_cons_zero,List.getD_cons_succ,l0,l1];decide) (condI (by simp only[List.getD_cons_zero,List.getD_cons_succ,l0,l1];decide) (h t0 t1))))
theorem loksl3_0:LoopOK Esl3F4 (lb Tryz.f84 0) [0,15,16] [] slA3:=by
 refine loopOK (.cons okinv2 (.cons oktmw (.cons okmnw .nil))) (fun b' hb=>by
  have hl:loopsOf (lb Tryz.f84 0)=[lb Tryz.f84 1,lb Tryz.f84 2,lb Tryz.f84 3]:=by kernel_rfl
  rw[hl] at hb
  simp only[List.mem_cons,List.not_mem_nil,or_false] at hb
  rcases hb with rfl|rfl|rfl
  ·exact loopHyp_none (key:=8) (n:=5) (by kernel_rfl) rfl
  ·exact loopHyp_none (key:=13) (n:=4) (by kernel_rfl) rfl
  ·exact loopHyp_none (key:=18) (n:=5) (by kernel_rfl) rfl) (fun vs σ=>match vs,σ with
  |[.one (.own 0 1),.one (.int .i64 n),.one (.int .i64 c)],[.cells [.own 1 1,.own 2 1,.own 3 1],.row 128 (.ints .i64 _),.row 128 (.ints .i64 _),.row 128 (.ints .i64 _)]=>(n-c).toNat
  |_,_=>0) fun vs σ k h=> ?_
 unfold slA3 at h
 split at h
 rotate_right
 ·exact h.elim
 ·rename_i n c R0 R1 R2
  obtain⟨⟨rfl,hok,h1,h2⟩,h⟩:=h
  have hc:c=0∨c=1∨c=2∨c=3:=by omega
  rcases hc with rfl|rfl|rfl|rfl
  ·obtain⟨r00,r01,r02,r03,rfl⟩:=ex_4 (hok R0 (by simp)).1
   obtain⟨r10,r11,r12,r13,rfl⟩:=ex_4 (hok R1 (by simp)).1
   obtain⟨r20,r21,r22,r23,rfl⟩:=ex_4 (hok R2 (by simp)).1
   rw[exsl3c0]
   have rg:=res_get (hok _ (getD_mem (i:=0) (d:=[]) (by simp))).2 0
   refine And.intro rg fun s hs=> ?_
   cases hs
   have e:=stpW_eq (c:=0) hok (by simp)
   have o:=stp_ok (c:=0) hok (by simp)
   rw[← e] at o
   have hk: ∀X,X=stp 0 [[r00,r01,r02,r03],[r10,r11,r12,r13],[r20,r21,r22,r23]]→k (.exit 0) [] [.cells [.own 1 1,.own 2 1,.own 3 1],.row 128 (.ints .i64 ((solF 2 1 X).getD 0 [])),.row 128 (.ints .i64 ((solF 2 1 X).getD 1 [])),.row 128 (.ints .i64 ((solF 2 1 X).getD 2 []))]:=fun X hX=>by rw[hX];exact h
   exact⟨⟨⟨rfl,o,by decide,by decide⟩,hk _ e⟩,by show((3:Int)-1).toNat<((3:Int)-0).toNat;decide⟩
  ·obtain⟨r00,r01,r02,r03,rfl⟩:=ex_4 (hok R0 (by simp)).1
   obtain⟨r10,r11,r12,r13,rfl⟩:=ex_4 (hok R1 (by simp)).1
   obtain⟨r20,r21,r22,r23,rfl⟩:=ex_4 (hok R2 (by simp)).1
   rw[exsl3c1]
   have rg:=res_get (hok _ (getD_mem (i:=1) (d:=[]) (by simp))).2 1
   refine And.intro rg fun s hs=> ?_
   cases hs
   have e:=stpW_eq (c:=1) hok (by simp)
   have o:=stp_ok (c:=1) hok (by simp)
   rw[← e] at o
   have hk: ∀X,X=stp 1 [[r00,r01,r02,r03],[r10,r11,r12,r13],[r20,r21,r22,r23]]→k (.exit 0) [] [.cells [.own 1 1,.own 2 1,.own 3 1],.row 128 (.ints .i64 ((solF 1 2 X).getD 0 [])),.row 128 (.ints .i64 ((solF 1 2 X).getD 1 [])),.row 128 (.ints .i64 ((solF 1 2 X).getD 2 []))]:=fun X hX=>by rw[hX];exact h
   exact⟨⟨⟨rfl,o,by decide,by decide⟩,hk _ e⟩,by show((3:Int)-2).toNat<((3:Int)-1).toNat;decide⟩
  ·obtain⟨r00,r01,r02,r03,rfl⟩:=ex_4 (hok R0 (by simp)).1
   obtain⟨r10,r11,r12,r13,rfl⟩:=ex_4 (hok R1 (by simp)).1
   obtain⟨r20,r21,r22,r23,rfl⟩:=ex_4 (hok R2 (by simp)).1
   rw[exsl3c2]
   have rg:=res_get (hok _ (getD_mem (i:=2) (d:=[]) (by simp))).2 2
   refine And.intro rg fun s hs=> ?_
   cases hs
   have e:=stpW_eq (c:=2) hok (by simp)
   have o:=stp_ok (c:=2) hok (by simp)
   rw[← e] at o
   have hk: ∀X,X=stp 2 [[r00,r01,r02,r03],[r10,r11,r12,r13],[r20,r21,r22,r23]]→k (.exit 0) [] [.cells [.own 1 1,.own 2 1,.own 3 1],.row 128 (.ints .i64 ((solF 0 3 X).getD 0 [])),.row 128 (.ints .i64 ((solF 0 3 X).getD 1 [])),.row 128 (.ints .i64 ((solF 0 3 X).getD 2 []))]:=fun X hX=>by rw[hX];exact h
   exact⟨⟨⟨rfl,o,by decide,by decide⟩,hk _ e⟩,by show((3:Int)-3).toNat<((3:Int)-2).toNat;decide⟩
  ·rw[exsl3c3]
   exact h
theorem oksl3:SpecOK Tryz.prog 84 slS3:=by
 refine specOK (n:=95) (m:=4) (lps:=[(3,.frm 4 [0,15,16] [] slA3),(8,.unroll 5),(13,.unroll 4),(18,.unroll 5),(25,.unroll 4)]) (.cons okinv2 (.cons oktmw (.cons okmnw .nil))) Tryz.func84 (by kernel_rfl) (by kernel_rfl) (theLoops (n:=5) (by kernel_rfl) fun i hi=> ?_) fun args σ K h=> ?_
 ·match i,hi with
  |0,_=>exact loopHyp_frm (E':=Esl3F4) (key:=3) (m:=4) (by kernel_rfl) rfl rfl loksl3_0
  |1,_=>exact loopHyp_none (key:=8) (n:=5) (by kernel_rfl) rfl
  |2,_=>exact loopHyp_none (key:=13) (n:=4) (by kernel_rfl) rfl
  |3,_=>exact loopHyp_none (key:=18) (n:=5) (by kernel_rfl) rfl
  |4,_=>exact loopHyp_none (key:=25) (n:=4) (by kernel_rfl) rfl
 unfold slS3 at h
 split at h
 rotate_right
 ·exact h.elim
 rename_i R0 R1 R2
 rw[exsl3 R0 R1 R2 K]
 obtain⟨hok,h⟩:=h
 refine And.intro ⟨rfl,hok,by decide,by decide⟩ ?_
 obtain⟨hT1,hT2⟩:=solF_ok 3 0 [R0,R1,R2] hok (by simp)
 have e:solV [R0,R1,R2]=(solF 3 0 [R0,R1,R2]).map fun R=>R.getD 3 0:=rfl
 rw[e] at h
 generalize solF 3 0 [R0,R1,R2]=T at *
 match T,hT2,hT1,h with
 |[t0,t1,t2],_,hT1,h=>
  have l0:t0.length=4:=(hT1 t0 (by simp)).1
  have l1:t1.length=4:=(hT1 t1 (by simp)).1
  have l2:t2.length=4:=(hT1 t2 (by simp)).1
  refine condI (by simp only[List.getD_cons_zero,List.getD_cons_succ,l0,l1,l2];decide) (condI (by simp only[List.getD_cons_zero,List.getD_cons_succ,l0,l1,l2];decide) (condI (by simp only[List.getD_cons_zero,List.getD_cons_succ,l0,l1,l2];decide) (condI (by simp only[List.getD_cons_zero,List.getD_cons_succ,l0,l1,l2];decide) (condI (by simp only[List.getD_cons_zero,List.getD_cons_succ,l0,l1,l2];decide) (condI (by simp only[List.getD_cons_zero,List.getD_cons_succ,l0,l1,l2];decide) (h t0 t1 t2))))))
theorem loksl4_0:LoopOK Esl4F5 (lb Tryz.f84 0) [0,15,16] [] slA4:=by
 refine loopOK (.cons okinv2 (.cons oktmw (.cons okmnw .nil))) (fun b' hb=>by
  have hl:loopsOf (lb Tryz.f84 0)=[lb Tryz.f84 1,lb Tryz.f84 2,lb Tryz.f84 3]:=by kernel_rfl
  rw[hl] at hb
  simp only[List.mem_cons,List.not_mem_nil,or_false] at hb
  rcases hb with rfl|rfl|rfl
  ·exact loopHyp_none (key:=8) (n:=6) (by kernel_rfl) rfl
  ·exact loopHyp_none (key:=13) (n:=5) (by kernel_rfl) rfl
  ·exact loopHyp_none (key:=18) (n:=6) (by kernel_rfl) rfl) (fun vs σ=>match vs,σ with
  |[.one (.own 0 1),.one (.int .i64 n),.one (.int .i64 c)],[.cells [.own 1 1,.own 2 1,.own 3 1,.own 4 1],.row 128 (.ints .i64 _),.row 128 (.ints .i64 _),.row 128 (.ints .i64 _),.row 128 (.ints .i64 _)]=>(n-c).toNat
  |_,_=>0) fun vs σ k h=> ?_
 unfold slA4 at h
 split at h
 rotate_right
 ·exact h.elim
 ·rename_i n c R0 R1 R2 R3
  obtain⟨⟨rfl,hok,h1,h2⟩,h⟩:=h
  have hc:c=0∨c=1∨c=2∨c=3∨c=4:=by omega
  rcases hc with rfl|rfl|rfl|rfl|rfl
  ·obtain⟨r00,r01,r02,r03,r04,rfl⟩:=ex_5 (hok R0 (by simp)).1
   obtain⟨r10,r11,r12,r13,r14,rfl⟩:=ex_5 (hok R1 (by simp)).1
   obtain⟨r20,r21,r22,r23,r24,rfl⟩:=ex_5 (hok R2 (by simp)).1
   obtain⟨r30,r31,r32,r33,r34,rfl⟩:=ex_5 (hok R3 (by simp)).1
   rw[exsl4c0]
   have rg:=res_get (hok _ (getD_mem (i:=0) (d:=[]) (by simp))).2 0
   refine And.intro rg fun s hs=> ?_
   cases hs
   have e:=stpW_eq (c:=0) hok (by simp)
   have o:=stp_ok (c:=0) hok (by simp)
   rw[← e] at o
   have hk: ∀X,X=stp 0 [[r00,r01,r02,r03,r04],[r10,r11,r12,r13,r14],[r20,r21,r22,r23,r24],[r30,r31,r32,r33,r34]]→k (.exit 0) [] [.cells [.own 1 1,.own 2 1,.own 3 1,.own 4 1],.row 128 (.ints .i64 ((solF 3 1 X).getD 0 [])),.row 128 (.ints .i64 ((solF 3 1 X).getD 1 [])),.row 128 (.ints .i64 ((solF 3 1 X).getD 2 [])),.row 128 (.ints .i64 ((solF 3 1 X).getD 3 []))]:=fun X hX=>by rw[hX];exact h
   exact⟨⟨⟨rfl,o,by decide,by decide⟩,hk _ e⟩,by show((4:Int)-1).toNat<((4:Int)-0).toNat;decide⟩
  ·obtain⟨r00,r01,r02,r03,r04,rfl⟩:=ex_5 (hok R0 (by simp)).1
   obtain⟨r10,r11,r12,r13,r14,rfl⟩:=ex_5 (hok R1 (by simp)).1
   obtain⟨r20,r21,r22,r23,r24,rfl⟩:=ex_5 (hok R2 (by simp)).1
   obtain⟨r30,r31,r32,r33,r34,rfl⟩:=ex_5 (hok R3 (by simp)).1
   rw[exsl4c1]
   have rg:=res_get (hok _ (getD_mem (i:=1) (d:=[]) (by simp))).2 1
   refine And.intro rg fun s hs=> ?_
   cases hs
   have e:=stpW_eq (c:=1) hok (by simp)
   have o:=stp_ok (c:=1) hok (by simp)
   rw[← e] at o
   have hk: ∀X,X=stp 1 [[r00,r01,r02,r03,r04],[r10,r11,r12,r13,r14],[r20,r21,r22,r23,r24],[r30,r31,r32,r33,r34]]→k (.exit 0) [] [.cells [.own 1 1,.own 2 1,.own 3 1,.own 4 1],.row 128 (.ints .i64 ((solF 2 2 X).getD 0 [])),.row 128 (.ints .i64 ((solF 2 2 X).getD 1 [])),.row 128 (.ints .i64 ((solF 2 2 X).getD 2 [])),.row 128 (.ints .i64 ((solF 2 2 X).getD 3 []))]:=fun X hX=>by rw[hX];exact h
   exact⟨⟨⟨rfl,o,by decide,by decide⟩,hk _ e⟩,by show((4:Int)-2).toNat<((4:Int)-1).toNat;decide⟩
  ·obtain⟨r00,r01,r02,r03,r04,rfl⟩:=ex_5 (hok R0 (by simp)).1
   obtain⟨r10,r11,r12,r13,r14,rfl⟩:=ex_5 (hok R1 (by simp)).1
   obtain⟨r20,r21,r22,r23,r24,rfl⟩:=ex_5 (hok R2 (by simp)).1
   obtain⟨r30,r31,r32,r33,r34,rfl⟩:=ex_5 (hok R3 (by simp)).1
   rw[exsl4c2]
   have rg:=res_get (hok _ (getD_mem (i:=2) (d:=[]) (by simp))).2 2
   refine And.intro rg fun s hs=> ?_
   cases hs
   have e:=stpW_eq (c:=2) hok (by simp)
   have o:=stp_ok (c:=2) hok (by simp)
   rw[← e] at o
   have hk: ∀X,X=stp 2 [[r00,r01,r02,r03,r04],[r10,r11,r12,r13,r14],[r20,r21,r22,r23,r24],[r30,r31,r32,r33,r34]]→k (.exit 0) [] [.cells [.own 1 1,.own 2 1,.own 3 1,.own 4 1],.row 128 (.ints .i64 ((solF 1 3 X).getD 0 [])),.row 128 (.ints .i64 ((solF 1 3 X).getD 1 [])),.row 128 (.ints .i64 ((solF 1 3 X).getD 2 [])),.row 128 (.ints .i64 ((solF 1 3 X).getD 3 []))]:=fun X hX=>by rw[hX];exact h
   exact⟨⟨⟨rfl,o,by decide,by decide⟩,hk _ e⟩,by show((4:Int)-3).toNat<((4:Int)-2).toNat;decide⟩
  ·obtain⟨r00,r01,r02,r03,r04,rfl⟩:=ex_5 (hok R0 (by simp)).1
   obtain⟨r10,r11,r12,r13,r14,rfl⟩:=ex_5 (hok R1 (by simp)).1
   obtain⟨r20,r21,r22,r23,r24,rfl⟩:=ex_5 (hok R2 (by simp)).1
   obtain⟨r30,r31,r32,r33,r34,rfl⟩:=ex_5 (hok R3 (by simp)).1
   rw[exsl4c3]
   have rg:=res_get (hok _ (getD_mem (i:=3) (d:=[]) (by simp))).2 3
   refine And.intro rg fun s hs=> ?_
   cases hs
   have e:=stpW_eq (c:=3) hok (by simp)
   have o:=stp_ok (c:=3) hok (by simp)
   rw[← e] at o
   have hk: ∀X,X=stp 3 [[r00,r01,r02,r03,r04],[r10,r11,r12,r13,r14],[r20,r21,r22,r23,r24],[r30,r31,r32,r33,r34]]→k (.exit 0) [] [.cells [.own 1 1,.own 2 1,.own 3 1,.own 4 1],.row 128 (.ints .i64 ((solF 0 4 X).getD 0 [])),.row 128 (.ints .i64 ((solF 0 4 X).getD 1 [])),.row 128 (.ints .i64 ((solF 0 4 X).getD 2 [])),.row 128 (.ints .i64 ((solF 0 4 X).getD 3 []))]:=fun X hX=>by rw[hX];exact h
   exact⟨⟨⟨rfl,o,by decide,by decide⟩,hk _ e⟩,by show((4:Int)-4).toNat<((4:Int)-3).toNat;decide⟩
  ·rw[exsl4c4]
   exact h
theorem oksl4:SpecOK Tryz.prog 84 slS4:=by
 refine specOK (n:=95) (m:=5) (lps:=[(3,.frm 5 [0,15,16] [] slA4),(8,.unroll 6),(13,.unroll 5),(18,.unroll 6),(25,.unroll 5)]) (.cons okinv2 (.cons oktmw (.cons okmnw .nil))) Tryz.func84 (by kernel_rfl) (by kernel_rfl) (theLoops (n:=5) (by kernel_rfl) fun i hi=> ?_) fun args σ K h=> ?_
 ·match i,hi with
  |0,_=>exact loopHyp_frm (E':=Esl4F5) (key:=3) (m:=5) (by kernel_rfl) rfl rfl loksl4_0
  |1,_=>exact loopHyp_none (key:=8) (n:=6) (by kernel_rfl) rfl
  |2,_=>exact loopHyp_none (key:=13) (n:=5) (by kernel_rfl) rfl
  |3,_=>exact loopHyp_none (key:=18) (n:=6) (by kernel_rfl) rfl
  |4,_=>exact loopHyp_none (key:=25) (n:=5) (by kernel_rfl) rfl
 unfold slS4 at h
 split at h
 rotate_right
 ·exact h.elim
 rename_i R0 R1 R2 R3
 rw[exsl4 R0 R1 R2 R3 K]
 obtain⟨hok,h⟩:=h
 refine And.intro ⟨rfl,hok,by decide,by decide⟩ ?_
 obtain⟨hT1,hT2⟩:=solF_ok 4 0 [R0,R1,R2,R3] hok (by simp)
 have e:solV [R0,R1,R2,R3]=(solF 4 0 [R0,R1,R2,R3]).map fun R=>R.getD 4 0:=rfl
 rw[e] at h
 generalize solF 4 0 [R0,R1,R2,R3]=T at *
 match T,hT2,hT1,h with
 |[t0,t1,t2,t3],_,hT1,h=>
  have l0:t0.length=5:=(hT1 t0 (by simp)).1
  have l1:t1.length=5:=(hT1 t1 (by simp)).1
  have l2:t2.length=5:=(hT1 t2 (by simp)).1
  have l3:t3.length=5:=(hT1 t3 (by simp)).1
  refine condI (by simp only[List.getD_cons_zero,List.getD_cons_succ,l0,l1,l2,l3];decide) (condI (by simp only[List.getD_cons_zero,List.getD_cons_succ,l0,l1,l2,l3];decide) (condI (by simp only[List.getD_cons_zero,List.getD_cons_succ,l0,l1,l2,l3];decide) (condI (by simp only[List.getD_cons_zero,List.getD_cons_succ,l0,l1,l2,l3];decide) (condI (by simp only[List.getD_cons_zero,List.getD_cons_succ,l0,l1,l2,l3];decide) (condI (by simp only[List.getD_cons_zero,List.getD_cons_succ,l0,l1,l2,l3];decide) (condI (by simp only[List.getD_cons_zero,List.getD_cons_succ,l0,l1,l2,l3];decide) (condI (by simp only[List.getD_cons_zero,List.getD_cons_succ,l0,l1,l2,l3];decide) (h t0 t1 t2 t3))))))))
end Go.Ev
