/-
  Part of the proof that TopClickOnly holds.
-/
import Derived.Test.YtgkngjjnpiheoaaT20
set_option linter.unusedVariables false
set_option linter.unusedSimpArgs false
set_option linter.unusedSectionVars false
namespace Go.Ev
open Go Go.Proofs
attribute [local irreducible] evFn evBody evRound
set_option maxRecDepth 20000
theorem okMk_iff{m:List Int}:okMk m=true↔0≤m.getD 0 0∧m.getD 0 0≤m.getD 1 0∧m.getD 1 0≤1000:=by unfold okMk;simp
theorem all_atM{p:List Int→Bool}{l:List (List Int)}{i:Nat}(h:l.all p=true)(hi:i<l.length):p (l.getD i [])=true:=by
 rw[getD_of_lt hi]
 exact List.all_eq_true.1 h _ (List.getElem_mem hi)
theorem cntG_bd: ∀{ms:List (List Int)},ms.all okMk=true→0≤cntG ms∧cntG ms≤1001*ms.length
 |[],_=>by simp[cntG]
 |m::l,h=>by
  rw[List.all_cons,Bool.and_eq_true] at h
  have h1:=okMk_iff.1 h.1
  have h2:=cntG_bd h.2
  simp only[cntG,List.length_cons]
  omega
theorem lokcnt_0:LoopOK Ecnt (lb Try.f25 0) [3,6,7,8] [3] countL:=by
 refine loopOK .nil (noInner (by kernel_rfl)) (fun vs σ=>match vs,σ with
  |[.one (.int .i64 _),.one (.data (.mat .i64 2 _)),.one (.int .i64 l),.one (.int .i64 i)],[]=>(l-i).toNat
  |_,_=>0) fun vs σ k h=> ?_
 unfold countL at h
 split at h
 rotate_right
 ·exact h.elim
 ·rename_i n ms l i
  rw[excntl0a n ms l i _]
  obtain⟨⟨h1,h2,h3,h4,h5,h6⟩,hk⟩:=h
  by_cases hi:i<l
  ·have hm:=okMk_iff.1 (all_atM h1 (show i.toNat<ms.length by omega))
   rw[drop_step [] (show i.toNat<ms.length by omega),show i.toNat+1=(i+1).toNat by omega] at hk
   simp only[cntG] at hk
   rw[← Int.add_assoc] at hk
   rw[decide_eq_true hi,decide_eq_true h4,decide_eq_true (show i<(ms.length:Int) by omega),decide_eq_true (show i.toNat<ms.length by omega),decide_eq_true (show 1<2 by decide),wrap_id (n:=i+1) (by omega) (by omega),wrap_id (n:=(ms.getD i.toNat []).getD 1 0-(ms.getD i.toNat []).getD 0 0) (by omega) (by omega),wrap_id (n:=(ms.getD i.toNat []).getD 1 0-(ms.getD i.toNat []).getD 0 0+1) (by omega) (by omega),wrap_id (by omega) (by omega)]
   simp only[Bool.and_self,cond_true]
   exact⟨⟨⟨h1,h2,h3,by omega,by omega,by omega⟩,hk⟩,by show(l-(i+1)).toNat<(l-i).toNat;omega⟩
  ·rw[decide_eq_false hi]
   rw[List.drop_eq_nil_of_le (by omega),show cntG []=0 from rfl,Int.add_zero] at hk
   exact hk
theorem okcnt:SpecOK Try.prog 25 countS:=by
 refine specOK (n:=22) (m:=0) (lps:=[(3,.spec [3,6,7,8] [3] countL)]) .nil Try.func25 (by kernel_rfl) (by kernel_rfl) (theLoops (n:=1) (by kernel_rfl) fun i hi=> ?_) fun args σ K h=> ?_
 ·match i,hi with
  |0,_=>exact loopHyp_of (key:=3) (by kernel_rfl) rfl lokcnt_0
 unfold countS at h
 split at h
 rotate_right
 ·exact h.elim
 ·rename_i ms
  rw[excnt ms K]
  rw[Int.zero_add]
  exact⟨⟨h.1.1,rfl,h.1.2,by decide,by decide,by decide⟩,h.2⟩
theorem oksin:SpecOK Try.prog 26 singS:=by
 refine specOK (n:=17) (m:=0) (lps:=[]) (.cons okcnt (.cons okunl .nil)) Try.func26 (by kernel_rfl) (by kernel_rfl) (noLoops (by kernel_rfl)) fun args σ K h=> ?_
 unfold singS at h
 split at h
 rotate_right
 ·exact h.elim
 ·rename_i x ms
  rw[exsin x ms K]
  obtain⟨⟨h1,h2,h3⟩,h⟩:=h
  have hb:=cntG_bd h1
  unfold singE at h
  rw[wrap_id (n:=(x.length:Int)-cntG ms) (by omega) (by omega)]
  cases he:(ms.length:Int)==0 with
  |true=>rw[he] at h;exact h
  |false=>rw[he,Bool.false_or] at h;exact⟨⟨h1,h2⟩,h⟩
theorem okixx:SpecOK Try.prog 40 idxS:=by
 refine specOK (n:=9) (m:=1) (lps:=[]) (.cons okwic .nil) Try.func40 (by kernel_rfl) (by kernel_rfl) (noLoops (by kernel_rfl)) fun args σ K h=> ?_
 unfold idxS at h
 split at h
 rotate_right
 ·exact h.elim
 ·rename_i n x
  rw[exixx n x K]
  rw[wrap_id (n:=(x.length:Int)-1) (by omega) (by omega)]
  exact h.2
theorem okmks:SpecOK Try.prog 29 marksS:=by
 refine specOK (n:=74) (m:=0) (lps:=[(6,.unroll 3)]) (.cons okerr (.cons okunl (.cons okfst (.cons oksin (.cons okixx .nil))))) Try.func29 (by kernel_rfl) (by kernel_rfl) (theLoops (n:=1) (by kernel_rfl) fun i hi=> ?_) fun args σ K h=> ?_
 ·match i,hi with
  |0,_=>exact loopHyp_none (key:=6) (n:=3) (by kernel_rfl) rfl
 unfold marksS at h
 split at h
 rotate_right
 ·exact h.elim
 ·rename_i x ms
  obtain⟨⟨rfl,rfl⟩,h⟩:=h
  rw[exmks0 K]
  exact⟨by decide,by decide,by decide,by decide,by decide,⟨rfl,by decide,by decide⟩,h⟩
theorem lokgcd_0:LoopOK Egcd (lb Try.f44 0) [0,1] [0] gcdL:=by
 refine loopOK (.cons okszc .nil) (noInner (by kernel_rfl)) (fun vs σ=>match vs,σ with
  |[.one (.int .i64 _),.one (.int .i64 b)],[]=>b.natAbs
  |_,_=>0) fun vs σ k h=> ?_
 unfold gcdL at h
 split at h
 rotate_right
 ·exact h.elim
 ·rename_i a b
  rw[exgcdl0a a b _]
  by_cases hb:b=0
  ·subst hb
   rw[gcdG] at h
   simpa using h
  ·rw[gcdG,if_neg hb] at h
   simp only[bne,beq_eq_false_iff_ne.2 hb,hb,decide_false,Bool.not_false,cond_true]
   exact⟨h,by show(a.tmod b).natAbs<b.natAbs;rw[Int.natAbs_tmod];exact Nat.mod_lt _ (by omega)⟩
theorem okgcd:SpecOK Try.prog 44 gcdS:=by
 refine specOK (n:=13) (m:=0) (lps:=[(1,.spec [0,1] [0] gcdL)]) (.cons okszc .nil) Try.func44 (by kernel_rfl) (by kernel_rfl) (theLoops (n:=1) (by kernel_rfl) fun i hi=> ?_) fun args σ K h=> ?_
 ·match i,hi with
  |0,_=>exact loopHyp_of (key:=1) (by kernel_rfl) rfl lokgcd_0
 unfold gcdS at h
 split at h
 rotate_right
 ·exact h.elim
 ·rename_i a b
  rw[exgcd a b K]
  exact h
theorem floor_eq{n b:Int}(hb:1≤b):(bif decide (n.tmod b<0) then n.tdiv b-1 else n.tdiv b)=n/b:=by
 have e1:=Int.tdiv_eq_ediv (a:=n) (b:=b)
 have e2:=Int.tmod_eq_emod (a:=n) (b:=b)
 have e3:=Int.emod_nonneg n (show b≠0 by omega)
 have e4:=Int.emod_lt_of_pos n (show 0<b by omega)
 have e5:b.sign=1:=Int.sign_eq_one_of_pos (by omega)
 have e6:(b.natAbs:Int)=b:=by omega
 by_cases hc:0≤n∨b ∣ n
 ·rw[if_pos hc] at e1 e2
  rw[decide_eq_false (by omega),cond_false]
  omega
 ·rw[if_neg hc] at e1 e2
  rw[decide_eq_true (by omega),cond_true]
  omega
theorem okflo:SpecOK Try.prog 37 floorS:=by
 refine specOK (n:=16) (m:=0) (lps:=[]) .nil Try.func37 (by kernel_rfl) (by kernel_rfl) (noLoops (by kernel_rfl)) fun args σ K h=> ?_
 unfold floorS at h
 split at h
 rotate_right
 ·exact h.elim
 ·rename_i n b
  rw[exflo n b K]
  obtain⟨⟨h1,h2,h3,h4⟩,h⟩:=h
  have hq: -1000000000≤n/b∧n/b≤1000000000:=by
   constructor
   ·exact(Int.le_ediv_iff_mul_le (by omega)).2 (by
     have:(-1000000000:Int)*b≤ -1000000000*1:=Int.mul_le_mul_of_nonpos_left (by omega) h1
     omega)
   ·exact Int.ediv_le_of_le_mul (by omega) (by
     have:(1000000000:Int)*1≤1000000000*b:=Int.mul_le_mul_of_nonneg_left h1 (by decide)
     omega)
  rw[decide_eq_false (show¬b=0 by omega)]
  have e:=floor_eq (n:=n) h1
  cases hd:decide (n.tmod b<0) with
  |true=>
   rw[hd,cond_true] at e
   simp only[Bool.not_false,cond_true]
   rw[wrap_id (n:=n.tdiv b) (by omega) (by omega),wrap_id (by omega) (by omega),e]
   exact h
  |false=>
   rw[hd,cond_false] at e
   simp only[Bool.not_false,cond_true,cond_false]
   rw[wrap_id (n:=n.tdiv b) (by omega) (by omega),e]
   exact h
theorem addG_len(x:List Int)(lo hi:Int)(row:List Int)(i f:Int):(addG x lo hi row i f).length=row.length:=by
 unfold addG
 cases withinG i lo hi<;>simp
theorem okadc:SpecOK Try.prog 51 addcS:=by
 refine specOK (n:=37) (m:=4) (lps:=[]) (.cons okwic .nil) Try.func51 (by kernel_rfl) (by kernel_rfl) (noLoops (by kernel_rfl)) fun args σ K h=> ?_
 unfold addcS at h
 split at h
 rotate_right
 ·exact h.elim
 ·rename_i i f lo hi row x
  rw[exadc i f lo hi row x K]
  obtain⟨⟨h1,h2,h3,h4,h5,h6,h7⟩,h⟩:=h
  unfold addG at h
  cases hw:withinG i lo hi with
  |true=>
   rw[hw,cond_true] at h
   have hb:lo≤i∧i≤hi:=by simpa [withinG] using hw
   rw[cond_true,wrap_id (n:=i-lo) (by omega) (by omega),decide_eq_true (show 0≤i-lo by omega),decide_eq_true (show i-lo<(row.length:Int) by omega),decide_eq_true (show(i-lo).toNat+0<row.length by omega),Nat.add_zero]
   simp only[Bool.and_self,cond_true]
   exact h
  |false=>
   rw[hw,cond_false] at h
   rw[cond_false,wrap_id (n:=(row.length:Int)-1) (by omega) (by omega),show((row.length:Int)-1).toNat=row.length-1 by omega,decide_eq_true (show 0≤(row.length:Int)-1 by omega),decide_eq_true (show(row.length:Int)-1<(row.length:Int) by omega),decide_eq_true (show row.length-1+0<row.length by omega),decide_eq_true h1,decide_eq_true h2,decide_eq_true (show i.toNat+0<x.length by omega),Nat.add_zero,Nat.add_zero]
   simp only[Bool.and_self,cond_true]
   exact h
theorem eqK_len(x:List Int)(lo hi j:Int)(row:List Int)(k:Nat):(eqK x lo hi j row k).length=row.length:=by
 unfold eqK
 rw[addG_len,addG_len,addG_len]
theorem lokeqn_0:LoopOK Eeqn (lb Try.f42 0) [2,3,7,8,20,21] [7] eqnL:=by
 refine loopOK (.cons okwic (.cons okadc .nil)) (noInner (by kernel_rfl)) (fun vs σ=>match vs,σ with
  |[.one (.int .i64 _),.one (.ptr 0 1 0 0),.one (.ptr 1 1 0 0),.one (.func 51 [3,1,0]),.agg [.int .i64 _,.int .i64 _,.int .i64 _],.one (.int .i64 c)],[.cells [.data (.ints .i64 _)],.cells [.own 2 1],.row 3 (.ints .i64 _),.cells [.int .i64 _,.int .i64 _]]=>(3-c).toNat
  |_,_=>0) fun vs σ k h=> ?_
 unfold eqnL at h
 split at h
 rotate_right
 ·exact h.elim
 ·rename_i j w0 w1 w2 c x row lo hi
  rw[exeqnl0a j w0 w1 w2 c x row lo hi _]
  obtain⟨⟨rfl,rfl,rfl,⟨h1,h2,h3,h4,h5,h6⟩,h7,h8,h9⟩,hk⟩:=h
  by_cases hc:c<3
  ·have ew:[(1:Int),-2,1].getD c.toNat 0=wgtG c.toNat:=rfl
   have ec:((c.toNat:Nat):Int)=c:=by omega
   rw[show(3-c).toNat=(3-(c+1)).toNat+1 by omega] at hk
   simp only[eqA] at hk
   rw[show 2-(3-(c+1)).toNat=c.toNat by omega] at hk
   rw[ew,decide_eq_true hc,decide_eq_true h8,wrap_id (n:=c+1) (by omega) (by omega),wrap_id (n:=j-1) (by omega) (by omega),wrap_id (n:=j-1+c) (by omega) (by omega),wrap_id (n:=j-1+c-1) (by omega) (by omega),wrap_id (n:=j-1+c+1) (by omega) (by omega),wrap_id (n:=(x.length:Int)-2) (by omega) (by omega)]
   rw[show withinG (j-1+c) 1 ((x.length:Int)-2)=true by unfold withinG;rw[decide_eq_true (show 1≤j-1+c by omega),decide_eq_true (show j-1+c≤(x.length:Int)-2 by omega)];rfl]
   simp only[Bool.and_self,cond_true,Bool.not_true,cond_false]
   have er:eqK x lo hi j row c.toNat=addG x lo hi (addG x lo hi (addG x lo hi row (j-1+c-1) (wgtG c.toNat)) (j-1+c) (IntKind.i64.wrap (-2*wgtG c.toNat))) (j-1+c+1) (wgtG c.toNat):=by
    unfold eqK
    rw[ec]
    rfl
   rw[← er]
   refine⟨⟨by omega,by omega,h3,h4,h5,h6,h7⟩,⟨by omega,by omega,h3,h4,h5,h6,by rw[addG_len];exact h7⟩,⟨by omega,by omega,h3,h4,h5,h6,by rw[addG_len,addG_len];exact h7⟩,?_⟩
   exact⟨⟨⟨rfl,rfl,rfl,⟨h1,h2,h3,h4,h5,h6⟩,by rw[eqK_len];exact h7,by omega,by omega⟩,hk⟩,by show(3-(c+1)).toNat<(3-c).toNat;omega⟩
  ·rw[decide_eq_false hc]
   rw[show(3-c).toNat=0 by omega] at hk
   exact hk
theorem okeqn:SpecOK Try.prog 42 eqnS:=by
 refine specOK (n:=52) (m:=0) (lps:=[(4,.spec [2,3,7,8,20,21] [7] eqnL)]) (.cons okwic (.cons okadc .nil)) Try.func42 (by kernel_rfl) (by kernel_rfl) (theLoops (n:=1) (by kernel_rfl) fun i hi=> ?_) fun args σ K h=> ?_
 ·match i,hi with
  |0,_=>exact loopHyp_of (key:=4) (by kernel_rfl) rfl lokeqn_0
 unfold eqnS at h
 split at h
 rotate_right
 ·exact h.elim
 ·rename_i x lo hi j
  rw[exeqn x lo hi j K]
  obtain⟨⟨h1,h2,h3,h4,h5,h6⟩,h⟩:=h
  rw[wrap_id (n:=hi-lo) (by omega) (by omega),wrap_id (n:=hi-lo+2) (by omega) (by omega),decide_eq_true (show 0≤hi-lo+2 by omega),decide_eq_true (Int.le_refl (hi-lo+2)),decide_eq_true (show(hi-lo+2)*8≤140737488355328∧hi-lo+2≤140737488355328 by omega)]
  simp only[Bool.and_self,cond_true]
  exact⟨⟨trivial,trivial,trivial,⟨h1,h2,h3,h4,h5,h6⟩,by rw[List.length_replicate];omega,by decide,by decide⟩,h⟩
end Go.Ev
namespace Go.Ev
open Go Go.Proofs
attribute [local irreducible] evFn evBody evRound
set_option maxRecDepth 20000
theorem oksl1:SpecOK Try.prog 43 solve1S:=by
 refine specOKc (n:=133) (m:=2) (lps:=[(4,.unroll 5),(7,.unroll 5),(11,.unroll 6),(18,.unroll 5),(22,.unroll 5)]) [] [23] .nil Try.func43 (by kernel_rfl) (by kernel_rfl) (theLoops (n:=5) (by kernel_rfl) fun i hi=> ?_) fun args σ K h=> ?_
 ·match i,hi with
  |0,_=>exact loopHyp_none (key:=4) (n:=5) (by kernel_rfl) rfl
  |1,_=>exact loopHyp_none (key:=7) (n:=5) (by kernel_rfl) rfl
  |2,_=>exact loopHyp_none (key:=11) (n:=6) (by kernel_rfl) rfl
  |3,_=>exact loopHyp_none (key:=18) (n:=5) (by kernel_rfl) rfl
  |4,_=>exact loopHyp_none (key:=22) (n:=5) (by kernel_rfl) rfl
 unfold solve1S at h
 split at h
 rotate_right
 ·exact h.elim
 ·rename_i r0
  obtain⟨rfl,h⟩:=h
  rw[exsl1 K]
  exact h _
theorem oksl3:SpecOK Try.prog 43 solve3S:=by
 refine specOKc (n:=133) (m:=4) (lps:=[(4,.unroll 5),(7,.unroll 5),(11,.unroll 6),(18,.unroll 5),(22,.unroll 5)]) [] [23] .nil Try.func43 (by kernel_rfl) (by kernel_rfl) (theLoops (n:=5) (by kernel_rfl) fun i hi=> ?_) fun args σ K h=> ?_
 ·match i,hi with
  |0,_=>exact loopHyp_none (key:=4) (n:=5) (by kernel_rfl) rfl
  |1,_=>exact loopHyp_none (key:=7) (n:=5) (by kernel_rfl) rfl
  |2,_=>exact loopHyp_none (key:=11) (n:=6) (by kernel_rfl) rfl
  |3,_=>exact loopHyp_none (key:=18) (n:=5) (by kernel_rfl) rfl
  |4,_=>exact loopHyp_none (key:=22) (n:=5) (by kernel_rfl) rfl
 unfold solve3S at h
 split at h
 rotate_right
 ·exact h.elim
 ·rename_i r0 r1 r2
  obtain⟨u,v,w,⟨p,q,r,rfl,rfl,rfl,hu,hp,hq,hr⟩,h⟩:=h
  obtain⟨e0,e1,e2⟩:=sol_eq hu hp hq hr
  rw[exsl3 p q r K,e0,e1,e2]
  exact h _ _ _
theorem addG_in{x:List Int}{lo hi:Int}{row:List Int}{i f:Int}(k:Nat)(h:i=lo+k)(h1:i≤hi):addG x lo hi row i f=row.set k (wi (row.getD k 0+f)):=by
 unfold addG withinG
 rw[decide_eq_true (show lo≤i by omega),decide_eq_true h1,show(i-lo).toNat=k by omega]
 rfl
theorem addG_out{x:List Int}{lo hi:Int}{row:List Int}{i f:Int}(h:i<lo∨hi<i):addG x lo hi row i f=row.set (row.length-1) (wi (row.getD (row.length-1) 0-wi (f*x.getD i.toNat 0))):=by
 unfold addG withinG
 rcases h with h|h
 ·rw[decide_eq_false (show¬lo≤i by omega)];rfl
 ·rw[decide_eq_false (show¬i≤hi by omega),Bool.and_false];rfl
def tri(x:List Int)(lo hi:Int)(row:List Int)(i w:Int):List Int:=addG x lo hi (addG x lo hi (addG x lo hi row (i-1) w) i (wi (-2*w))) (i+1) w
theorem tri_m1(x:List Int)(lo a b c d w:Int):tri x lo (lo+2) [a,b,c,d] (lo-1) w=[wi (a+w),b,c,wi (wi (d-wi (w*x.getD (lo-2).toNat 0))-wi (wi (-2*w)*x.getD (lo-1).toNat 0))]:=by
 unfold tri
 rw[addG_out (i:=lo-1-1) (.inl (by omega)),addG_out (i:=lo-1) (.inl (by omega)),addG_in (i:=lo-1+1) 0 (by omega) (by omega),show lo-1-1=lo-2 by omega]
 rfl
theorem tri_0(x:List Int)(lo a b c d w:Int):tri x lo (lo+2) [a,b,c,d] lo w=[wi (a+wi (-2*w)),wi (b+w),c,wi (d-wi (w*x.getD (lo-1).toNat 0))]:=by
 unfold tri
 rw[addG_out (i:=lo-1) (.inl (by omega)),addG_in (i:=lo) 0 (by omega) (by omega),addG_in (i:=lo+1) 1 (by omega) (by omega)]
 rfl
theorem tri_1(x:List Int)(lo a b c d w:Int):tri x lo (lo+2) [a,b,c,d] (lo+1) w=[wi (a+w),wi (b+wi (-2*w)),wi (c+w),d]:=by
 unfold tri
 rw[addG_in (i:=lo+1-1) 0 (by omega) (by omega),addG_in (i:=lo+1) 1 (by omega) (by omega),addG_in (i:=lo+1+1) 2 (by omega) (by omega)]
 rfl
theorem tri_2(x:List Int)(lo a b c d w:Int):tri x lo (lo+2) [a,b,c,d] (lo+2) w=[a,wi (b+w),wi (c+wi (-2*w)),wi (d-wi (w*x.getD (lo+3).toNat 0))]:=by
 unfold tri
 rw[addG_in (i:=lo+2-1) 1 (by omega) (by omega),addG_in (i:=lo+2) 2 (by omega) (by omega),addG_out (i:=lo+2+1) (.inr (by omega)),show lo+2+1=lo+3 by omega]
 rfl
theorem tri_3(x:List Int)(lo a b c d w:Int):tri x lo (lo+2) [a,b,c,d] (lo+3) w=[a,b,wi (c+w),wi (wi (d-wi (wi (-2*w)*x.getD (lo+3).toNat 0))-wi (w*x.getD (lo+4).toNat 0))]:=by
 unfold tri
 rw[addG_in (i:=lo+3-1) 2 (by omega) (by omega),addG_out (i:=lo+3) (.inr (by omega)),addG_out (i:=lo+3+1) (.inr (by omega)),show lo+3+1=lo+4 by omega]
 rfl
theorem eqG_tri(x:List Int)(lo j:Int):eqG x lo (lo+2) j=tri x lo (lo+2) (tri x lo (lo+2) (tri x lo (lo+2) [0,0,0,0] (j-1) 1) j (-2)) (j+1) 1:=by
 unfold eqG
 rw[show(lo+2-lo+2).toNat=4 by omega]
 show tri x lo (lo+2) (tri x lo (lo+2) (tri x lo (lo+2) [0,0,0,0] (j-1+((0:Nat):Int)) 1) (j-1+((1:Nat):Int)) (-2)) (j-1+((2:Nat):Int)) 1=_
 rw[show j-1+((0:Nat):Int)=j-1 by omega,show j-1+((1:Nat):Int)=j by omega,show j-1+((2:Nat):Int)=j+1 by omega]
theorem wi_id{n:Int}(h1: -9000000000000000≤n)(h2:n≤9000000000000000):wi n=n:=wrap_id (by omega) (by omega)
end Go.Ev
namespace Go.Ev
open Go Go.Proofs
attribute [local irreducible] evFn evBody evRound
set_option maxRecDepth 20000
theorem eq_lines{x:List Int}{lo:Int}(h:menI x lo (lo+2)):eqG x lo (lo+2) lo=[6,-4,1,4*x.getD (lo-1).toNat 0-x.getD (lo-2).toNat 0]∧
  eqG x lo (lo+2) (lo+1)=[-4,6,-4,-x.getD (lo-1).toNat 0-x.getD (lo+3).toNat 0]∧eqG x lo (lo+2) (lo+2)=[1,-4,6,4*x.getD (lo+3).toNat 0-x.getD (lo+4).toNat 0]:=by
 obtain⟨⟨h0,ha⟩,h1,h2,h3,h4,h5⟩:=h
 have b1:=sampleG_iff.1 (all_at ha (show(lo-2).toNat<x.length by omega))
 have b2:=sampleG_iff.1 (all_at ha (show(lo-1).toNat<x.length by omega))
 have b3:=sampleG_iff.1 (all_at ha (show(lo+3).toNat<x.length by omega))
 have b4:=sampleG_iff.1 (all_at ha (show(lo+4).toNat<x.length by omega))
 have c1:wi (-2*1)= -2:=by decide
 have c2:wi (-2 * -2)=4:=by decide
 refine⟨?_,?_,?_⟩
 ·rw[eqG_tri,tri_m1,tri_0,tri_1,c1,c2]
  clear h4 h5
  generalize x.getD (lo-2).toNat 0=p at *
  generalize x.getD (lo-1).toNat 0=q at *
  rw[wi_id (n:=1*p) (by omega) (by omega),wi_id (n:= -2*q) (by omega) (by omega),wi_id (n:=0-1*p) (by omega) (by omega),wi_id (n:=0-1*p - -2*q) (by omega) (by omega),wi_id (n:=0-1*p - -2*q - -2*q) (by omega) (by omega)]
  rw[show wi (wi (wi (0+1)+4)+1)=6 by decide,show wi (wi (0 + -2) + -2)= -4 by decide,show wi (0+1)=1 by decide,show 0-1*p - -2*q - -2*q=4*q-p by omega]
 ·rw[eqG_tri,show lo+1-1=lo by omega,tri_0,tri_1,show lo+1+1=lo+2 by omega,tri_2,c1,c2]
  clear h4 h5
  generalize x.getD (lo-1).toNat 0=q at *
  generalize x.getD (lo+3).toNat 0=r at *
  rw[wi_id (n:=1*q) (by omega) (by omega),wi_id (n:=0-1*q) (by omega) (by omega),wi_id (n:=1*r) (by omega) (by omega),wi_id (n:=0-1*q-1*r) (by omega) (by omega)]
  rw[show wi (wi (0 + -2) + -2)= -4 by decide,show wi (wi (wi (0+1)+4)+1)=6 by decide,show 0-1*q-1*r= -q-r by omega]
 ·rw[eqG_tri,show lo+2-1=lo+1 by omega,tri_1,tri_2,show lo+2+1=lo+3 by omega,tri_3,c1,c2]
  clear h4 h5
  generalize x.getD (lo+3).toNat 0=r at *
  generalize x.getD (lo+4).toNat 0=s at *
  rw[wi_id (n:= -2*r) (by omega) (by omega),wi_id (n:=0 - -2*r) (by omega) (by omega),wi_id (n:=0 - -2*r - -2*r) (by omega) (by omega),wi_id (n:=1*s) (by omega) (by omega),wi_id (n:=0 - -2*r - -2*r-1*s) (by omega) (by omega)]
  rw[show wi (0+1)=1 by decide,show wi (wi (0 + -2) + -2)= -4 by decide,show wi (wi (1+4)+1)=6 by decide,show 0 - -2*r - -2*r-1*s=4*r-s by omega]
theorem gcdG_abs: ∀(n:Nat) (a b:Int),b.natAbs≤n→(gcdG a b).natAbs=Nat.gcd b.natAbs a.natAbs
 |0,a,b,h=>by
  have:b=0:=by omega
  subst this
  rw[gcdG];simp
 |n+1,a,b,h=>by
  by_cases hb:b=0
  ·subst hb;rw[gcdG];simp
  ·rw[gcdG,if_neg hb,gcdG_abs n b (a.tmod b) (by rw[Int.natAbs_tmod];have:=Nat.mod_lt a.natAbs (show 0<b.natAbs by omega);omega),Int.natAbs_tmod,← Nat.gcd_rec]
theorem gcd50{u:Int}(h1: -1000000≤u)(h2:u≤1000000):sizeG (gcdG 50 (50*u))=50:=by
 have e:=gcdG_abs _ 50 (50*u) (Nat.le_refl _)
 rw[Int.natAbs_mul,show(50:Int).natAbs=50 from rfl,Nat.gcd_comm,Nat.gcd_eq_left (Nat.dvd_mul_right 50 u.natAbs)] at e
 unfold sizeG
 rw[wi_id (by omega) (by omega)]
 split<;>omega
theorem okmn1:SpecOK Try.prog 30 men1S:=by
 refine specOKc (n:=64) (m:=0) (lps:=[(3,.unroll 3),(9,.unroll 3),(14,.unroll 3)]) [] [23] (.cons okeqn (.cons oksl1 (.cons okgcd .nil))) Try.func30 (by kernel_rfl) (by kernel_rfl) (theLoops (n:=3) (by kernel_rfl) fun i hi=> ?_) fun args σ K h=> ?_
 ·match i,hi with
  |0,_=>exact loopHyp_none (key:=3) (n:=3) (by kernel_rfl) rfl
  |1,_=>exact loopHyp_none (key:=9) (n:=3) (by kernel_rfl) rfl
  |2,_=>exact loopHyp_none (key:=14) (n:=3) (by kernel_rfl) rfl
 unfold men1S at h
 split at h
 rotate_right
 ·exact h.elim
 ·rename_i x lo hi
  obtain⟨⟨rfl,rfl,rfl⟩,h⟩:=h
  rw[exmn1 K]
  exact⟨by decide,by decide,fun _=>h⟩
theorem okmn3:SpecOK Try.prog 30 men3S:=by
 refine specOKc (n:=64) (m:=0) (lps:=[(3,.unroll 4),(9,.unroll 4),(14,.unroll 4)]) [] [23] (.cons okeqn (.cons oksl3 (.cons okgcd .nil))) Try.func30 (by kernel_rfl) (by kernel_rfl) (theLoops (n:=3) (by kernel_rfl) fun i hi=> ?_) fun args σ K h=> ?_
 ·match i,hi with
  |0,_=>exact loopHyp_none (key:=3) (n:=4) (by kernel_rfl) rfl
  |1,_=>exact loopHyp_none (key:=9) (n:=4) (by kernel_rfl) rfl
  |2,_=>exact loopHyp_none (key:=14) (n:=4) (by kernel_rfl) rfl
 unfold men3S at h
 split at h
 rotate_right
 ·exact h.elim
 ·rename_i x lo hi
  rw[exmn3 x lo hi K]
  obtain⟨hm,h⟩:=h
  have hm':=hm
  obtain⟨⟨h0,ha⟩,h1,rfl,h3,h4,h5⟩:=hm'
  obtain⟨e0,e1,e2⟩:=eq_lines hm
  have b1:=sampleG_iff.1 (all_at ha (show(lo-2).toNat<x.length by omega))
  have b2:=sampleG_iff.1 (all_at ha (show(lo-1).toNat<x.length by omega))
  rw[decide_eq_true (show lo≤lo+2 by omega),wrap_id (n:=lo+1) (by omega) (by omega),decide_eq_true (show lo+1≤lo+2 by omega),wrap_id (n:=lo+1+1) (by omega) (by omega),show lo+1+1=lo+2 by omega,decide_eq_true (show lo+2≤lo+2 by omega),wrap_id (n:=lo+2+1) (by omega) (by omega),decide_eq_false (show¬lo+2+1≤lo+2 by omega)]
  simp only[cond_true,cond_false]
  refine⟨⟨by omega,by omega,h0,by omega,by omega,by omega⟩,⟨by omega,by omega,h0,by omega,by omega,by omega⟩,⟨by omega,by omega,h0,by omega,by omega,by omega⟩,?_⟩
  have g0:uG x lo=2*x.getD (lo-1).toNat 0-x.getD (lo-2).toNat 0:=rfl
  have g1:bG x lo=x.getD (lo-1).toNat 0-x.getD (lo-2).toNat 0:=rfl
  refine⟨uG x lo,uG x lo+bG x lo,uG x lo+2*bG x lo,⟨_,_,_,e0,e1,e2,by omega,by omega,by omega,by omega⟩,fun a b c=> ?_⟩
  rw[gcd50 (by omega) (by omega),gcd50 (by omega) (by omega),gcd50 (by omega) (by omega)]
  have q: ∀{n:Int},-1000000≤n→n≤1000000→IntKind.i64.wrap ((50*n).tdiv 50)=n:=fun h1 h2=>by rw[Int.mul_tdiv_cancel_left _ (by decide)];exact wrap_id (by omega) (by omega)
  rw[q (by omega) (by omega),q (by omega) (by omega),q (by omega) (by omega),show IntKind.i64.wrap ((50:Int).tdiv 50)=1 by decide,decide_eq_false (show¬(50:Int)=0 by decide)]
  simp only[Bool.not_false,cond_true]
  exact h
end Go.Ev
namespace Go.Ev
open Go Go.Proofs
attribute [local irreducible] evFn evBody evRound
set_option maxRecDepth 20000
theorem putA_len: ∀(l:List Int) (out:List Int) (p:Nat),(putA out p l).length=out.length
 |[],_,_=>rfl
 |n::l,out,p=>by show(putA (out.set p n) (p+1) l).length=_;rw[putA_len l,List.length_set]
theorem clampE{n:Int}(h1: -32767≤n)(h2:n≤32767):(if(if n > -32767 then n else -32767)<32767 then(if n > -32767 then n else -32767) else 32767)=n:=by
 have e:(if n > -32767 then n else -32767)=n:=by split<;>omega
 rw[e]
 split<;>omega
theorem lokint_1:LoopOK Eint (lb Try.f27 1) [0,5,7,8,14,15,16,24,25,26] [0,5,14,15,16] intJL:=by
 refine loopOK (.cons okcln (.cons okmn3 (.cons okflo .nil))) (noInner (by kernel_rfl)) (fun vs σ=>match vs,σ with
  |[.one (.data (.ints .i64 _)),.one (.own 0 1),.one (.ptr 1 1 0 0),.one (.ptr 2 1 0 0),.one (.data (.mat .i64 2 _)),.one (.int .i64 _),.one (.int .i64 _),.one (.own 3 1),.one (.int .i64 ln),.one (.int .i64 j)],[.row 3 (.ints .i64 _),.cells [.int .i64 _,.int .i64 _],.cells [.int .i64 _,.int .i64 _,.own 3 1],.row 3 (.ints .i64 _)]=>(ln-j).toNat
  |_,_=>0) fun vs σ k h=> ?_
 unfold intJL at h
 split at h
 rotate_right
 ·exact h.elim
 ·rename_i x ms l i ln j out lo hi fr den nums
  rw[exintl1a x ms l i ln j out lo hi fr den nums _]
  obtain⟨⟨rfl,h2,h3,h4,h5,h6,h7⟩,hk⟩:=h
  by_cases hj:j<ln
  ·have b:=sampleG_iff.1 (all_at h2 (show j.toNat<nums.length by omega))
   rw[drop_step 0 (show j.toNat<nums.length by omega),show j.toNat+1=(j+1).toNat by omega] at hk
   simp only[putA] at hk
   rw[show(lo+j).toNat+1=(lo+(j+1)).toNat by omega] at hk
   rw[decide_eq_true hj,decide_eq_true h4,decide_eq_true (show j<(nums.length:Int) by omega),decide_eq_true (show j.toNat+0<nums.length by omega),wrap_id (n:=(2:Int)*1) (by decide) (by decide),wrap_id (n:=lo+j) (by omega) (by omega),wrap_id (n:=j+1) (by omega) (by omega),Nat.add_zero,Nat.add_zero,wrap_id (n:=2*nums.getD j.toNat 0) (by omega) (by omega),wrap_id (n:=2*nums.getD j.toNat 0+1) (by omega) (by omega),show(2*nums.getD j.toNat 0+1)/(2*1)=nums.getD j.toNat 0 by omega,clampE b.1 b.2,decide_eq_true (show 0≤lo+j by omega),decide_eq_true (show lo+j<(out.length:Int) by omega),decide_eq_true (show(lo+j).toNat<out.length by omega)]
   simp only[Bool.and_self,cond_true]
   exact⟨⟨by decide,by decide,by omega,by omega⟩,⟨⟨rfl,h2,h3,by omega,h5,by rw[List.length_set];exact h6,by rw[List.length_set];exact h7⟩,hk⟩,by show(ln-(j+1)).toNat<(ln-j).toNat;omega⟩
  ·rw[decide_eq_false hj]
   rw[List.drop_eq_nil_of_le (by omega)] at hk
   exact hk
theorem lokint_0:LoopOK Eint (lb Try.f27 0) [0,5,14,15,16] [5] intIL:=by
 refine loopOK (.cons okcln (.cons okmn3 (.cons okflo .nil))) (fun b' hb=>by
  have hl:loopsOf (lb Try.f27 0)=[lb Try.f27 1]:=by kernel_rfl
  rw[hl] at hb
  simp only[List.mem_cons,List.not_mem_nil,or_false] at hb
  subst hb
  exact loopHyp_of (key:=7) (by kernel_rfl) rfl lokint_1) (fun vs σ=>match vs,σ with
  |[.one (.data (.ints .i64 _)),.one (.own 0 1),.one (.data (.mat .i64 2 _)),.one (.int .i64 l),.one (.int .i64 i)],[.row 3 (.ints .i64 _)]=>(l-i).toNat
  |_,_=>0) fun vs σ k h=> ?_
 unfold intIL at h
 split at h
 rotate_right
 ·exact h.elim
 ·rename_i x ms l i out
  rw[exintl0a x ms l i out _]
  obtain⟨⟨h1,h2,h3,h4,h5⟩,hk⟩:=h
  by_cases hi:i<l
  ·have hm:mkOk x (ms.getD i.toNat []):=h5 _ (by rw[getD_of_lt (show i.toNat<ms.length by omega)];exact List.getElem_mem _)
   rw[drop_step [] (show i.toNat<ms.length by omega),show i.toNat+1=(i+1).toNat by omega] at hk
   simp only[intA] at hk
   have hm1:=hm.1
   obtain⟨m0,m1,m2,m3,m4,m5⟩:=hm1
   have hl3:((menN x ((ms.getD i.toNat []).getD 0 0)).length:Int)=3:=rfl
   have hx:=m0.1
   rw[decide_eq_true hi,decide_eq_true h3,decide_eq_true (show i<(ms.length:Int) by omega),decide_eq_true (show i.toNat<ms.length by omega),decide_eq_true (show 1<2 by decide),wrap_id (n:=i+1) (by omega) (by omega),Int.add_zero]
   simp only[Bool.and_self,cond_true]
   exact⟨hm.1,⟨trivial,hm.2,trivial,by decide,by omega,by omega,by omega⟩,⟨⟨h1,h2,by omega,by rw[putA_len];exact h4,h5⟩,hk⟩,by show(l-(i+1)).toNat<(l-i).toNat;omega⟩
  ·rw[decide_eq_false hi]
   rw[List.drop_eq_nil_of_le (by omega)] at hk
   exact hk
theorem okint:SpecOK Try.prog 27 intS:=by
 refine specOK (n:=52) (m:=0) (lps:=[(3,.spec [0,5,14,15,16] [5] intIL),(7,.spec [0,5,7,8,14,15,16,24,25,26] [0,5,14,15,16] intJL)]) (.cons okcln (.cons okmn3 (.cons okflo .nil))) Try.func27 (by kernel_rfl) (by kernel_rfl) (theLoops (n:=2) (by kernel_rfl) fun i hi=> ?_) fun args σ K h=> ?_
 ·match i,hi with
  |0,_=>exact loopHyp_of (key:=3) (by kernel_rfl) rfl lokint_0
  |1,_=>exact loopHyp_of (key:=7) (by kernel_rfl) rfl lokint_1
 unfold intS at h
 split at h
 rotate_right
 ·exact h.elim
 ·rename_i x ms
  rw[exint x ms K]
  obtain⟨⟨h1,h2,h3,h4⟩,h⟩:=h
  exact⟨⟨by omega,h1⟩,⟨rfl,h3,by decide,rfl,h4⟩,h⟩
theorem room16{L:List (List Int)}{v:List Int}(h:L.length≤1000):decide ((L++[v]).length*16≤140737488355328∧(L++[v]).length≤140737488355328)=true:=decide_eq_true (by rw[List.length_append];simp only[List.length_cons,List.length_nil];omega)
theorem noEmpM{x:List (List Int)}(h:0<(x.length:Int)):x.isEmpty=false:=by cases x with|nil=>simp at h|cons a l=>rfl
theorem lokmnd_0:LoopOK Emnd (lb Try.f14 0) [1,2,8,20,21,22] [1,2,8] mndL:=by
 refine loopOK (.cons okclkD (.cons okcnt (.cons okunl (.cons oksin (.cons okfst (.cons okint .nil)))))) (noInner (by kernel_rfl)) (fun vs σ=>match vs,σ with
  |[.one (.data (.ints .i64 _)),.one (.ptr 0 1 0 0),.one .nil,.one (.data (.mat .i64 4 _)),.one (.int .i64 n),.one (.int .i64 i)],[.cells [.int .i64 _,.int .i64 _,.int .i64 _,.int .i64 _,.int .i64 _,.int .i64 _]]=>(n-i).toNat
  |[.one (.data (.ints .i64 _)),.one (.ptr 0 1 0 0),.one (.own 1 2),.one (.data (.mat .i64 4 _)),.one (.int .i64 n),.one (.int .i64 i)],[.cells [.int .i64 _,.int .i64 _,.int .i64 _,.int .i64 _,.int .i64 _,.int .i64 _],.row 45 (.mat .i64 2 _)]=>(n-i).toNat
  |_,_=>0) fun vs σ k h=> ?_
 unfold mndL at h
 split at h
 rotate_right
 ·exact h.elim
 ·rename_i x rs n i kd w th jo mo pe
  rw[exmndl0a x rs n i kd w th jo mo pe _]
  obtain⟨⟨h1,h2,h3⟩,hk⟩:=h
  by_cases hi:i<n
  ·rw[noEmpM (x:=rs) (by omega),cond_false] at hk
   rw[decide_eq_true hi,decide_eq_true (show 0≤i by omega),decide_eq_true (show i<(rs.length:Int) by omega),decide_eq_true (show i.toNat<rs.length by omega),decide_eq_true (show 3<4 by decide),wrap_id (n:=i+1) (by omega) (by omega)]
   simp only[Bool.and_self,cond_true]
   refine⟨⟨⟨h1,h2,by omega,by rw[List.length_singleton];omega⟩,?_⟩,by show(n-(i+1)).toNat<(n-i).toNat;omega⟩
   have e:rs.map mkOf=[[(rs.getD i.toNat []).getD 0 0,(rs.getD i.toNat []).getD 1 0]]++(rs.drop (i+1).toNat).map mkOf:=by
    have:=drop_step [] (show i.toNat<rs.length by omega)
    rw[show i.toNat=0 by omega,List.drop_zero] at this
    rw[show i.toNat=0 by omega,show(i+1).toNat=0+1 by omega]
    conv=>lhs;rw[this]
    rfl
   rw[e] at hk
   exact hk
  ·rw[decide_eq_false hi]
   rw[show rs.isEmpty=true by cases rs with|nil=>rfl|cons a l=>simp at h1;omega] at hk
   exact hk
 ·rename_i x rs n i kd w th jo mo pe out
  rw[exmndl0b x rs n i kd w th jo mo pe out _]
  obtain⟨⟨h1,h2,h3,h4⟩,hk⟩:=h
  by_cases hi:i<n
  ·rw[drop_step [] (show i.toNat<rs.length by omega),show i.toNat+1=(i+1).toNat by omega,List.map_cons,snoc_app] at hk
   rw[decide_eq_true hi,decide_eq_true (show 0≤i by omega),decide_eq_true (show i<(rs.length:Int) by omega),decide_eq_true (show i.toNat<rs.length by omega),decide_eq_true (show 3<4 by decide),wrap_id (n:=i+1) (by omega) (by omega),room16 (by omega)]
   simp only[Bool.and_self,cond_true]
   exact⟨⟨⟨h1,h2,by omega,by rw[len_snoc];omega⟩,hk⟩,by show(n-(i+1)).toNat<(n-i).toNat;omega⟩
  ·rw[decide_eq_false hi]
   rw[List.drop_eq_nil_of_le (by omega),List.map_nil,List.append_nil] at hk
   exact hk
theorem firstE_000:firstE [0,0,0]=0:=rfl
theorem okmnd:SpecOK Try.prog 14 mndS:=by
 refine specOK (n:=57) (m:=0) (lps:=[(6,.spec [1,2,8,20,21,22] [1,2,8] mndL)]) (.cons okclkD (.cons okcnt (.cons okunl (.cons oksin (.cons okfst (.cons okint .nil)))))) Try.func14 (by kernel_rfl) (by kernel_rfl) (theLoops (n:=1) (by kernel_rfl) fun i hi=> ?_) fun args σ K h=> ?_
 ·match i,hi with
  |0,_=>exact loopHyp_of (key:=6) (by kernel_rfl) rfl lokmnd_0
 unfold mndS at h
 split at h
 rotate_right
 ·exact h.elim
 ·rename_i kd w th jo mo pe x
  rw[exmnd kd w th jo mo pe x K]
  obtain⟨⟨h1,h2,h3,h4,h5,h6,h7,h8⟩,h⟩:=h
  obtain⟨x1,x2⟩:=errE_zero h2
  have hc:clkR kd th jo x=runsG kd th jo x:=by unfold clkR;rw[h2];rfl
  have hpe:0≤pe∧pe≤100:=by
   rcases h1.1 with⟨_,_,_,_,_,e⟩|⟨_,_,_,_,_,e⟩<;>omega
  have hpx:0≤pe*(x.length:Int)∧pe*(x.length:Int)≤100*200:=by
   constructor
   ·exact Int.mul_nonneg hpe.1 (by omega)
   ·exact Int.le_trans (Int.mul_le_mul_of_nonneg_right hpe.2 (by omega)) (by omega)
  have hcn:=cntG_bd h7
  have hln:((runsG kd th jo x).map mkOf).length=(runsG kd th jo x).length:=List.length_map _
  refine⟨h1,?_⟩
  rw[hc,h2]
  simp only[bne_self_eq_false,cond_false]
  refine⟨⟨trivial,by omega,trivial⟩,?_⟩
  rw[wrap_id (n:=pe*(x.length:Int)) (by omega) (by omega)]
  cases he:(runsG kd th jo x).isEmpty with
  |true=>
   rw[List.isEmpty_iff.1 he] at h h6
   have h6':singE x []=0:=h6
   rw[h6',decide_eq_true hpx.1]
   simp only[cond_true]
   refine⟨⟨trivial,by decide⟩,⟨trivial,by decide,by omega⟩,by simp,?_⟩
   rw[firstE_000]
   exact⟨⟨h3,by omega,by decide,fun m hm=>by cases hm⟩,h⟩
  |false=>
   rw[h6,wrap_id (n:=100*cntG ((runsG kd th jo x).map mkOf)) (by omega) (by omega),decide_eq_true h4,decide_eq_true (show((((runsG kd th jo x).map mkOf).length:Nat):Int)≤20 by omega)]
   simp only[cond_true,cond_false]
   refine⟨⟨h7,by omega⟩,⟨h7,by omega,by omega⟩,by simp,?_⟩
   rw[firstE_000]
   exact⟨⟨h3,by omega,by omega,h8⟩,h⟩
theorem okmndD:SpecOK Try.prog 14 mndDS:=by
 refine okmnd.froze fun args σ K h=> ?_
 unfold mndDS at h
 split at h
 rotate_right
 ·exact h.elim
 rename_i kd w th jo mo pe x
 obtain⟨h1,hk⟩:=h
 refine⟨rfl,h1,_,?_,hk⟩
 exact⟨⟨_,_,rfl,rfl,rfl⟩,rfl,trivial⟩
theorem okexa:SpecOK Try.prog 18 exactS:=by
 refine specOK (n:=34) (m:=0) (lps:=[(6,.unroll 3)]) (.cons okmks (.cons okmn1 .nil)) Try.func18 (by kernel_rfl) (by kernel_rfl) (theLoops (n:=1) (by kernel_rfl) fun i hi=> ?_) fun args σ K h=> ?_
 ·match i,hi with
  |0,_=>exact loopHyp_none (key:=6) (n:=3) (by kernel_rfl) rfl
 unfold exactS at h
 split at h
 rotate_right
 ·exact h.elim
 ·rename_i x ms
  obtain⟨⟨rfl,rfl⟩,h⟩:=h
  rw[exexa0 K]
  exact⟨⟨rfl,rfl⟩,⟨rfl,rfl,rfl⟩,h⟩
theorem okexaD:SpecOK Try.prog 18 exactDS:=by
 refine okexa.froze fun args σ K h=> ?_
 unfold exactDS at h
 split at h
 rotate_right
 ·exact h.elim
 rename_i x ms
 obtain⟨h1,hk⟩:=h
 refine⟨rfl,h1,_,?_,hk⟩
 exact⟨⟨_,_,rfl,rfl,rfl⟩,rfl,trivial⟩
theorem oksam:SpecOK Try.prog 19 sameS:=by
 refine specOK (n:=55) (m:=0) (lps:=[(4,.unroll 3)]) (.cons okints .nil) Try.func19 (by kernel_rfl) (by kernel_rfl) (theLoops (n:=1) (by kernel_rfl) fun i hi=> ?_) fun args σ K h=> ?_
 ·match i,hi with
  |0,_=>exact loopHyp_none (key:=4) (n:=3) (by kernel_rfl) rfl
 unfold sameS at h
 split at h
 rotate_right
 ·exact h.elim
 ·rename_i a b
  obtain⟨⟨rfl,rfl⟩,h⟩:=h
  rw[exsam0 K]
  exact⟨by decide,h⟩
theorem okawk:SpecOK Try.prog 4 awkS:=by
 refine specOKd (n:=36) (m:=0) (lps:=[]) [13,18] (.cons okthr (.cons okclkD (.cons okexaD (.cons oksam .nil)))) Try.func4 (by kernel_rfl) (by kernel_rfl) (noLoops (by kernel_rfl)) fun args σ K h=> ?_
 unfold awkS at h
 split at h
 rotate_right
 ·exact h.elim
 ·skip
  rw[exawk  K]
  exact⟨⟨.inl ⟨rfl,rfl,rfl,rfl,rfl,rfl⟩,by decide,fun _=>rfl,fun _=>⟨by decide +kernel,by decide +kernel⟩⟩,⟨rfl,rfl⟩,⟨rfl,rfl⟩,h⟩
end Go.Ev
namespace Go.Ev
open Go Go.Proofs
set_option maxRecDepth 20000
theorem list_ext0{l m:List Int}(h:l.length=m.length)(h2: ∀k,k<l.length→l.getD k 0=m.getD k 0):l=m:=by
 refine List.ext_getElem h fun k h1 h3=> ?_
 have:=h2 k h1
 rw[getD_of_lt h1,getD_of_lt h3] at this
 exact this
theorem all_of_get{p:Int→Bool}{l:List Int}(h: ∀k,k<l.length→p (l.getD k 0)=true):l.all p=true:=by
 refine List.all_eq_true.2 fun x hx=> ?_
 obtain⟨k,hk,rfl⟩:=List.getElem_of_mem hx
 have:=h k hk
 rw[getD_of_lt hk] at this
 exact this
theorem getSet(l:List Int)(i k:Nat)(v:Int)(hk:k<l.length):(l.set i v).getD k 0=if i=k then v else l.getD k 0:=by
 rw[getD_of_lt (by rw[List.length_set];exact hk),List.getElem_set,getD_of_lt hk]
theorem linA_len(a b:Int): ∀(c:Nat) (i:Int),(linA a b i c).length=c
 |0,_=>rfl
 |c+1,i=>by show(linA a b (i+1) c).length+1=c+1;rw[linA_len a b c]
theorem linA_get(a b:Int): ∀(c:Nat) (i:Int) (k:Nat),k<c→(linA a b i c).getD k 0=a+b*(i+k)
 |0,_,k,h=>by omega
 |c+1,i,0,_=>by show a+b*i=_;rw[show i+((0:Nat):Int)=i by omega]
 |c+1,i,k+1,h=>by
  show(linA a b (i+1) c).getD k 0=_
  rw[linA_get a b c (i+1) k (by omega),show i+1+(k:Int)=i+((k+1:Nat):Int) by omega]
theorem cmbF_len(p hh:Int)(t:List Int)(tm:Int): ∀(x:List Int) (i:Int),(cmbF p hh t tm i x).length=x.length
 |[],_=>rfl
 |n::l,i=>by show(cmbF p hh t tm (i+1) l).length+1=l.length+1;rw[cmbF_len p hh t tm l]
theorem cmbF_get(p hh:Int)(t:List Int)(tm:Int): ∀(x:List Int) (i:Int) (k:Nat),k<x.length→(cmbF p hh t tm i x).getD k 0=x.getD k 0+tm*humV p hh t (i+k)
 |[],_,k,h=>by simp at h
 |n::l,i,0,_=>by show n+tm*humV p hh t i=n+_;rw[show i+((0:Nat):Int)=i by omega]
 |n::l,i,k+1,h=>by
  show(cmbF p hh t tm (i+1) l).getD k 0=l.getD k 0+_
  rw[cmbF_get p hh t tm l (i+1) k (by simpa using h),show i+1+(k:Int)=i+((k+1:Nat):Int) by omega]
def sumAt:List (List Int)→Nat→Int
 |[],_=>0
 |h::r,k=>(if(h.getD 0 0).toNat=k then h.getD 1 0 else 0)+sumAt r k
theorem hitA_len: ∀(hs:List (List Int)) (l:List Int),(hitA l hs).length=l.length
 |[],_=>rfl
 |h::r,l=>by show(hitA (l.set _ _) r).length=_;rw[hitA_len r,List.length_set]
theorem hitA_get: ∀(hs:List (List Int)) (l:List Int) (k:Nat),k<l.length→(hitA l hs).getD k 0=l.getD k 0+sumAt hs k
 |[],l,k,_=>by show l.getD k 0=l.getD k 0+0;omega
 |h::r,l,k,hk=>by
  show(hitA (l.set _ _) r).getD k 0=_
  rw[hitA_get r _ k (by rw[List.length_set];exact hk),getSet _ _ _ _ hk]
  show _=l.getD k 0+((if(h.getD 0 0).toNat=k then h.getD 1 0 else 0)+sumAt r k)
  by_cases e:(h.getD 0 0).toNat=k
  ·rw[if_pos e,if_pos e,e];omega
  ·rw[if_neg e,if_neg e];omega
def sepH:Int→List (List Int)→Prop
 |_,[]=>True
 |lo,h::r=>(lo≤h.getD 0 0∧h.getD 0 0≤111∧ -20000≤h.getD 1 0∧h.getD 1 0≤20000∧(1600<h.getD 1 0∨h.getD 1 0 < -1600))∧sepH (h.getD 0 0+12) r
theorem sizeG_abs{n:Int}(h1: -1000000000≤n)(h2:n≤1000000000):sizeG n=if 0≤n then n else -n:=by
 unfold sizeG
 rw[wi_id (by omega) (by omega)]
 by_cases h:0≤n
 ·rw[if_pos h];split<;>omega
 ·rw[if_neg h];split<;>omega
theorem hitB_of{hs:List (List Int)}{i:Int}(h:hitB hs i=true)(hp:0<i→8≤atG hs (i-1)∧atG hs (i-1)≤111):(8≤atG hs i∧atG hs i≤111∧ -20000≤byG hs i∧byG hs i≤20000∧(1600<byG hs i∨byG hs i < -1600))∧(0<i→atG hs (i-1)+12≤atG hs i):=by
 unfold hitB withinG at h
 simp only[Bool.and_eq_true,decide_eq_true_eq,Bool.not_eq_true',decide_eq_false_iff_not,Bool.and_eq_false_iff] at h
 obtain⟨⟨h1,h2⟩,⟨h3,h4⟩,h5,h6⟩:=h
 rw[sizeG_abs (by omega) (by omega)] at h5
 refine⟨⟨h1,h2,h3,h4,?_⟩,fun hi=> ?_⟩
 ·split at h5<;>omega
 ·have hp:=hp hi
  rw[show IntKind.i64.wrap (atG hs i-atG hs (i-1))=atG hs i-atG hs (i-1) from wrap_id (by omega) (by omega)] at h6
  rcases h6 with h6|h6<;>omega
theorem sep_from{hs:List (List Int)}: ∀(c i:Nat) (lo:Int),i+c=hs.length→allI (hitB hs) i c=true→(i=0→lo=8)→(0<i→lo=atG hs ((i:Int)-1)+12∧8≤atG hs ((i:Int)-1)∧atG hs ((i:Int)-1)≤111)→sepH lo (hs.drop i)
 |0,i,lo,hl,_,_,_=>by rw[List.drop_eq_nil_of_le (by omega)];trivial
 |c+1,i,lo,hl,ha,h0,h1=>by
  have ha':(hitB hs i&&allI (hitB hs) ((i:Int)+1) c)=true:=ha
  rw[Bool.and_eq_true] at ha'
  obtain⟨b1,b2⟩:=hitB_of ha'.1 fun hi=>(h1 (by omega)).2
  rw[drop_step [] (show i<hs.length by omega)]
  have ea:(hs.getD i []).getD 0 0=atG hs i:=by unfold atG;rw[Int.toNat_natCast]
  have eb:(hs.getD i []).getD 1 0=byG hs i:=by unfold byG;rw[Int.toNat_natCast]
  have ih:=sep_from (hs:=hs) c (i+1) (atG hs i+12) (by omega) (by rw[show((i+1:Nat):Int)=(i:Int)+1 by omega];exact ha'.2) (by omega) fun _=>by
   rw[show((i+1:Nat):Int)-1=(i:Int) by omega]
   exact⟨rfl,b1.1,b1.2.1⟩
  refine⟨⟨?_,?_⟩,?_⟩
  ·rw[ea]
   by_cases hi:i=0
   ·rw[h0 hi];exact b1.1
   ·rw[(h1 (by omega)).1];exact b2 (by omega)
  ·rw[ea,eb];exact b1.2
  ·rw[ea];exact ih
theorem sep_of{hs:List (List Int)}(h:allI (hitB hs) 0 hs.length=true):sepH 8 hs:=by
 have:=sep_from hs.length 0 8 (by omega) h (fun _=>rfl) (fun h=>absurd h (by omega))
 rwa [List.drop_zero] at this
theorem sumAt_lo: ∀{hs:List (List Int)} {lo:Int} {k:Nat},sepH lo hs→0≤lo→(k:Int)<lo→sumAt hs k=0
 |[],_,_,_,_,_=>rfl
 |h::r,lo,k,hs,h0,hk=>by
  obtain⟨⟨h1,h2,h3,h4,h5⟩,hr⟩:=hs
  show(if(h.getD 0 0).toNat=k then h.getD 1 0 else 0)+sumAt r k=0
  rw[if_neg (by omega),sumAt_lo hr (by omega) (by omega)]
  rfl
theorem sumAt_far: ∀{hs:List (List Int)} {lo:Int} {k:Nat} {h:List Int},sepH lo hs→0≤lo→h ∈ hs→(k:Int)≠h.getD 0 0→(k:Int)<h.getD 0 0+12→h.getD 0 0-12<(k:Int)→sumAt hs k=0
 |g::r,lo,k,h,hs,h0,hm,h1,h2,h3=>by
  obtain⟨⟨g1,g2,g3,g4,g5⟩,hr⟩:=hs
  show(if(g.getD 0 0).toNat=k then g.getD 1 0 else 0)+sumAt r k=0
  rcases List.mem_cons.1 hm with rfl|hm
  ·rw[if_neg (by omega),sumAt_lo hr (by omega) (by omega)];rfl
  ·have hlo:g.getD 0 0+12≤h.getD 0 0:=by
    clear h1 h2 h3
    generalize g.getD 0 0+12=m at hr
    have: ∀{r:List (List Int)} {m:Int},sepH m r→h ∈ r→m≤h.getD 0 0:=fun{r}=>by
     induction r with
     |nil=>intro m _ hm;cases hm
     |cons q r ih=>
      intro m hs hm
      rcases List.mem_cons.1 hm with rfl|hm
      ·exact hs.1.1
      ·have:=ih hs.2 hm;have:=hs.1.1;omega
    exact this hr hm
   rw[if_neg (by omega),sumAt_far hr (by omega) hm h1 h2 h3];rfl
theorem sep_mem: ∀{r:List (List Int)} {m:Int} {h:List Int},sepH m r→h ∈ r→m≤h.getD 0 0∧h.getD 0 0≤111∧ -20000≤h.getD 1 0∧h.getD 1 0≤20000
 |q::r,m,h,hs,hm=>by
  rcases List.mem_cons.1 hm with rfl|hm
  ·exact⟨hs.1.1,hs.1.2.1,hs.1.2.2.1,hs.1.2.2.2.1⟩
  ·have:=sep_mem hs.2 hm;have:=hs.1.1;omega
theorem sumAt_none: ∀{hs:List (List Int)} {k:Nat},(∀h ∈ hs,(h.getD 0 0).toNat≠k)→sumAt hs k=0
 |[],_,_=>rfl
 |h::r,k,hn=>by
  show(if(h.getD 0 0).toNat=k then h.getD 1 0 else 0)+sumAt r k=0
  rw[if_neg (hn h (List.mem_cons_self ..)),sumAt_none fun h hm=>hn h (List.mem_cons_of_mem _ hm)];rfl
def abG(n:Int):Int:=if 0≤n then n else -n
def dvH:List (List Int)→Int→Int
 |[],_=>0
 |h::r,i=>if i=h.getD 0 0 then 2*abG (h.getD 1 0) else if i=h.getD 0 0-1∨i=h.getD 0 0+1 then abG (h.getD 1 0) else dvH r i
def dvA(hs:List (List Int))(i:Int):Nat→List Int
 |0=>[]
 |c+1=>dvH hs i::dvA hs (i+1) c
theorem dvH_lo: ∀{hs:List (List Int)} {lo i:Int},sepH lo hs→i+1<lo→dvH hs i=0
 |[],_,_,_,_=>rfl
 |h::r,lo,i,hs,hi=>by
  have h1:=hs.1.1
  unfold dvH
  rw[if_neg (by omega),if_neg (by omega)]
  exact dvH_lo hs.2 (by omega)
theorem dvH_hi: ∀{hs:List (List Int)} {lo i:Int},sepH lo hs→113≤i→dvH hs i=0
 |[],_,_,_,_=>rfl
 |h::r,lo,i,hs,hi=>by
  have h1:=hs.1.2.1
  unfold dvH
  rw[if_neg (by omega),if_neg (by omega)]
  exact dvH_hi hs.2 hi
theorem dv_sum: ∀{hs:List (List Int)} {lo:Int} {k:Nat},sepH lo hs→2≤lo→1≤k→abG (sumAt hs (k-1)-2*sumAt hs k+sumAt hs (k+1))=dvH hs k∧ -40000≤sumAt hs (k-1)-2*sumAt hs k+sumAt hs (k+1)∧sumAt hs (k-1)-2*sumAt hs k+sumAt hs (k+1)≤40000
 |[],_,_,_,_,_=>by refine⟨rfl,?_,?_⟩<;>(show(_:Int)≤_;simp[sumAt])
 |h::r,lo,k,hs,hlo,hk=>by
  obtain⟨⟨h1,h2,h3,h4,h5⟩,hr⟩:=hs
  simp only[sumAt,dvH]
  by_cases e0:(k:Int)=h.getD 0 0
  ·rw[sumAt_lo (k:=k-1) hr (by omega) (by omega),sumAt_lo (k:=k) hr (by omega) (by omega),sumAt_lo (k:=k+1) hr (by omega) (by omega),if_neg (show¬(h.getD 0 0).toNat=k-1 by omega),if_pos (show(h.getD 0 0).toNat=k by omega),if_neg (show¬(h.getD 0 0).toNat=k+1 by omega),if_pos e0]
   refine⟨?_,by omega,by omega⟩
   unfold abG
   split<;>split<;>omega
  ·rw[if_neg e0]
   by_cases e1:(k:Int)=h.getD 0 0-1∨(k:Int)=h.getD 0 0+1
   ·rw[if_pos e1,sumAt_lo (k:=k-1) hr (by omega) (by omega),sumAt_lo (k:=k) hr (by omega) (by omega),sumAt_lo (k:=k+1) hr (by omega) (by omega),if_neg (show¬(h.getD 0 0).toNat=k by omega)]
    rcases e1 with e1|e1
    ·rw[if_neg (show¬(h.getD 0 0).toNat=k-1 by omega),if_pos (show(h.getD 0 0).toNat=k+1 by omega)]
     refine⟨?_,by omega,by omega⟩
     congr 1;omega
    ·rw[if_pos (show(h.getD 0 0).toNat=k-1 by omega),if_neg (show¬(h.getD 0 0).toNat=k+1 by omega)]
     refine⟨?_,by omega,by omega⟩
     congr 1;omega
   ·rw[if_neg e1,if_neg (show¬(h.getD 0 0).toNat=k-1 by omega),if_neg (show¬(h.getD 0 0).toNat=k by omega),if_neg (show¬(h.getD 0 0).toNat=k+1 by omega)]
    have ih:=dv_sum (k:=k) hr (by omega) hk
    simp only[Int.zero_add]
    exact ih
end Go.Ev
