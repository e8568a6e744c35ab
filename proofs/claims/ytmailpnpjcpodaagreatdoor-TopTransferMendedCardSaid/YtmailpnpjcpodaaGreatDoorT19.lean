/-
  Part of the proof that TopTransferMended holds.
-/
import Derived.Test.YtmailpnpjcpodaaGreatDoorT18
set_option linter.unusedVariables false
set_option linter.unusedSimpArgs false
set_option linter.unusedSectionVars false
namespace Go.Ev
open Go Go.Proofs
attribute [local irreducible] evFn evBody
set_option maxRecDepth 20000
theorem ok103:SpecOK Tryz.prog 71 oddS:=by
 refine specOK (n:=6) (m:=0) (lps:=[]) (.cons ok71 .nil) Tryz.func71 (by kernel_rfl) (by kernel_rfl) (noLoops (by kernel_rfl)) fun args σ K h=> ?_
 unfold oddS at h
 split at h
 ·rw[ex103 _ K];exact h
 ·exact h.elim
theorem lok131:LoopOK E131 (lb Tryz.f105 0) [0,1,7,8] [4] idxL:=by
 refine loopOK (.cons ok103 .nil) (noInner (by kernel_rfl)) (fun vs _=>match vs with
  |[.one (.data (.ints .i64 l)),_,_,.one (.int .i64 i)]=>l.length-i.toNat
  |_=>0) fun vs σ k h=> ?_
 unfold idxL at h
 split at h
 ·rename_i l n i
  rw[ex131a l n i _]
  obtain⟨⟨h1,h2,rfl⟩,h⟩:=h
  by_cases hi:i<l.length
  ·have hw:IntKind.i64.wrap (i+1)=i+1:=wrap_id (by omega) (by omega)
   have hi':i.toNat<l.length:=by omega
   have hmu:l.length-(i+1).toNat<l.length-i.toNat:=by omega
   have e:idxI i (l.drop i.toNat)=bif oddB (l.getD i.toNat 0) then i else idxI (i+1) (l.drop (i+1).toNat):=by
    rw[drop_step 0 (by omega),show(i+1).toNat=i.toNat+1 by omega]
    rfl
   rw[any_step h2 hi,e] at h
   simp only[hi,hi',h2,hw,Nat.add_zero,decide_true,Bool.and_self,cond_true]
   cases hs:oddB (l.getD i.toNat 0) with
   |false=>rw[hs] at h;exact⟨⟨⟨h1,by omega,rfl⟩,h⟩,hmu⟩
   |true=>rw[hs] at h;exact h
  ·rw[List.drop_eq_nil_of_le (by omega)] at h
   simp only[hi,decide_false,cond_false]
   exact h
 ·exact h.elim
theorem idx_none: ∀{l:List Int} {i:Int},l.any oddB=false→idxI i l= -1
 |[],_,_=>rfl
 |b::l,i,h=>by
  simp only[List.any_cons,Bool.or_eq_false_iff] at h
  simp only[idxI,h.1,cond_false]
  exact idx_none h.2
theorem idx_some: ∀{l:List Int} {i:Int},l.any oddB=true→i≤idxI i l
 |[],_,h=>by simp at h
 |b::l,i,h=>by
  simp only[idxI]
  cases hb:oddB b with
  |true=>exact Int.le_refl _
  |false=>
   simp only[List.any_cons,hb,Bool.false_or] at h
   have:=idx_some (i:=i+1) h
   simp only[cond_false]
   omega
theorem ok131:SpecOK Tryz.prog 105 idxoS:=by
 refine specOK (n:=19) (m:=0) (lps:=[(2,.spec [0,1,7,8] [4] idxL)]) (.cons ok103 .nil) Tryz.func105 (by kernel_rfl) (by kernel_rfl) (theLoops (n:=1) (by kernel_rfl) fun i hi=> ?_) fun args σ K h=> ?_
 ·match i,hi with
  |0,_=>exact loopHyp_of (key:=2) (by kernel_rfl) rfl lok131
 ·unfold idxoS at h
  split at h
  ·rename_i l
   rw[ex131 l K]
   obtain⟨h1,h⟩:=h
   refine⟨⟨h1,by omega,rfl⟩,?_⟩
   cases hs:l.any oddB with
   |true=>exact h
   |false=>rw[idx_none hs] at h;exact h
  ·exact h.elim
theorem ok102:SpecOK Tryz.prog 70 containsOddS:=by
 refine specOK (n:=9) (m:=0) (lps:=[]) (.cons ok131 .nil) Tryz.func70 (by kernel_rfl) (by kernel_rfl) (noLoops (by kernel_rfl)) fun args σ K h=> ?_
 unfold containsOddS at h
 split at h
 ·rw[ex102 _ K];exact h
 ·exact h.elim
theorem flag_step(l:List Int)(a b:Nat):(decide (l.length<a)||decide ((l.drop a).length<b))=decide (l.length<a+b):=by
 rw[← Bool.decide_or]
 refine decide_eq_decide.2 ?_
 rw[List.length_drop]
 omega
theorem empty_flag(l:List Int):l.isEmpty=decide (l.length<1):=by
 cases l<;>simp
theorem ok132:SpecOK Tryz.prog 106 bitS:=by
 refine specOK (n:=28) (m:=1) (lps:=[]) .nil Tryz.func106 (by kernel_rfl) (by kernel_rfl) (noLoops (by kernel_rfl)) fun args σ K h=> ?_
 unfold bitS at h
 split at h
 ·rename_i l e
  rw[ex132 l e K]
  cases l with
  |nil=>simp at h;exact h
  |cons b l=>
   have h1:(((b::l).length:Nat):Int)≠0:=by simp only[List.length_cons];omega
   have h2:(0:Int)<(((b::l).length:Nat):Int):=by simp only[List.length_cons];omega
   have h3:0<(b::l).length:=by simp
   have h4:1≤(b::l).length:=by simp
   have h5:List.take ((b::l).length-1) (List.drop 1 (b::l))=l:=by simp
   simp only[beq_eq_false_iff_ne.2 h1,h2,h3,h4,h5,decide_true,Bool.and_self,Int.le_refl,Nat.le_refl,cond_true,cond_false]
   rw[decide_eq_true (show(0:Int)≤1 by decide)]
   simpa using h
 ·exact h.elim
theorem lok104:LoopOK E104 (lb Tryz.f72 0) [0,5,6,7] [5] readL:=by
 refine loopOK (.cons ok132 .nil) (noInner (by kernel_rfl)) (fun vs _=>match vs with
  |[_,_,.one (.int .i64 c),.one (.int .i64 i)]=>(c-i).toNat
  |_=>0) fun vs σ k h=> ?_
 unfold readL at h
 split at h
 ·rename_i n c i l e
  rw[ex104a l e n c i _]
  obtain⟨⟨h1,h2,h3⟩,h⟩:=h
  by_cases hi:i<c
  ·have hw:IntKind.i64.wrap (i+1)=i+1:=wrap_id (by omega) (by omega)
   have hmu:(c-(i+1)).toNat<(c-i).toNat:=by omega
   simp only[hi,decide_true,cond_true,hw]
   refine⟨⟨⟨by omega,by omega,h3⟩,?_⟩,hmu⟩
   rw[show(c-i).toNat=1+(c-(i+1)).toNat by omega,← flag_step,← List.drop_drop,Nat.add_comm 1] at h
   rw[empty_flag,Bool.or_assoc]
   exact h
  ·have e0:(c-i).toNat=0:=by omega
   rw[e0] at h
   simp only[hi,decide_false,cond_false]
   simpa [readV] using h
 ·exact h.elim
theorem ok104:SpecOK Tryz.prog 72 readS:=by
 refine specOK (n:=16) (m:=1) (lps:=[(3,.spec [0,5,6,7] [5] readL)]) (.cons ok132 .nil) Tryz.func72 (by kernel_rfl) (by kernel_rfl) (theLoops (n:=1) (by kernel_rfl) fun i hi=> ?_) fun args σ K h=> ?_
 ·match i,hi with
  |0,_=>exact loopHyp_of (key:=3) (by kernel_rfl) rfl lok104
 ·unfold readS at h
  split at h
  ·rename_i c l e
   rw[ex104 l e c K]
   obtain⟨⟨h1,h2⟩,h⟩:=h
   rw[Int.sub_zero]
   exact⟨⟨by omega,h1,h2⟩,h⟩
  ·exact h.elim
theorem lok105:LoopOK E105 (lb Tryz.f73 0) [0,1,5] [0,1,5] onesRL:=by
 refine loopOK (.cons ok132 (.cons ok104 .nil)) (noInner (by kernel_rfl)) (fun _ σ=>match σ with
  |[.cells [.data (.ints .i64 l),_]]=>l.length
  |_=>0) fun vs σ k h=> ?_
 unfold onesRL at h
 split at h
 ·rename_i p n l e
  rw[ex105a l e p n _]
  obtain⟨⟨h1,h2⟩,h⟩:=h
  cases l with
  |nil=>simp[onesN] at h ⊢;exact h
  |cons b l=>
   simp only[List.length_cons] at h2
   cases hb:b==1 with
   |true=>
    have eo:onesN (b::l)=onesN l+1:=by simp[onesN,hb]
    rw[eo] at h
    have hw:IntKind.i64.wrap (n+1)=n+1:=wrap_id (by omega) (by omega)
    simp only[List.getD_cons_zero,hb,cond_true,hw]
    simp only[List.length_cons,List.drop_succ_cons] at h
    refine⟨⟨⟨by omega,by show n+1+((List.drop 1 (b::l)).length:Int)≤_;simp;omega⟩,?_⟩,by show(List.drop 1 (b::l)).length<(b::l).length;simp⟩
    simp only[List.drop_succ_cons,List.drop_zero,List.isEmpty_cons,Bool.or_false]
    rw[show n+1+(onesN l:Int)=n+((onesN l+1:Nat):Int) by omega]
    rw[show decide (l.length<onesN l+1)=decide (l.length+1<onesN l+1+1) from decide_eq_decide.2 (by omega)]
    exact h
   |false=>
    have eo:onesN (b::l)=0:=by simp[onesN,hb]
    rw[eo] at h
    simp only[List.getD_cons_zero,hb,cond_false]
    simpa using h
 ·exact h.elim
theorem ok105:SpecOK Tryz.prog 73 codeS:=by
 refine specOK (n:=18) (m:=1) (lps:=[(2,.spec [0,1,5] [0,1,5] onesRL)]) (.cons ok132 (.cons ok104 .nil)) Tryz.func73 (by kernel_rfl) (by kernel_rfl) (theLoops (n:=1) (by kernel_rfl) fun i hi=> ?_) fun args σ K h=> ?_
 ·match i,hi with
  |0,_=>exact loopHyp_of (key:=2) (by kernel_rfl) rfl lok105
 ·unfold codeS at h
  split at h
  ·rename_i c l e
   rw[ex105 l e c K]
   obtain⟨⟨h1,h2,h3⟩,h⟩:=h
   have hc:¬c<0:=by omega
   refine⟨⟨by omega,by omega⟩,?_⟩
   simp only[hc,decide_false,Bool.not_false,cond_true]
   refine⟨⟨h1,by omega⟩,?_⟩
   rw[Int.zero_add,List.drop_drop,Bool.or_assoc,flag_step]
   exact h
  ·exact h.elim
theorem unp_all:AllOK Tryz.prog [(70,containsOddS),(50,unlessS),(49,firstS),(72,readS),(73,codeS),(74,expectedS),(65,samplesS)]:= .cons ok102 (.cons ok70 (.cons ok69 (.cons ok104 (.cons ok105 (.cons ok106 (.cons ok82 .nil))))))
theorem lok47:LoopOK E47 (lb Tryz.f23 0) [2,6,7,8,9,10,11,49] [2,6,9] unpLS:=by
 refine loopOK unp_all (noInner (by kernel_rfl)) (fun vs _=>match vs with
  |[_,_,_,_,_,_,_,.one (.int .i64 i)]=>(8-i).toNat
  |_=>0) fun vs σ k h=> ?_
 unfold unpLS at h
 split at h
 ·rename_i p c last bef i z l e x
  rw[ex47a p c last bef i z l x e _]
  obtain⟨⟨h1,h2,h3,h4,h5,h6⟩,h⟩:=h
  by_cases hi:i<8
  ·have hw:IntKind.i64.wrap (i+1)=i+1:=wrap_id (by omega) (by omega)
   have hmu:(8-(i+1)).toNat<(8-i).toNat:=by omega
   have hi':i.toNat<x.length:=by omega
   have hdl:(l.drop (onesN l+1+c.toNat)).length≤10000:=by rw[List.length_drop];omega
   rw[show(8-i).toNat=(8-(i+1)).toNat+1 by omega] at h
   simp only[unpX,unpL,unpE] at h
   have key: ∀v,v=wi (expG p last bef+resid (codeV c.toNat l))→x.set i.toNat v=x.set i.toNat v∧(unpLS [.one (.ptr 0 1 0 0),.one (.ptr 1 1 0 0),.one (.int .i64 p),.one (.int .i64 c),.one (.ptr 2 1 0 0),.one (.int .i64 v),.one (.int .i64 last),.one (.int .i64 (i+1))]
     [.row 22 (.ints .i64 z),.cells [.data (.ints .i64 (l.drop (onesN l+1+c.toNat))),.bool (e||decide (l.length<onesN l+1+c.toNat))],.row 119 (.ints .i64 (x.set i.toNat v))] k∧(8-(i+1)).toNat<(8-i).toNat):=by
    intro v hv
    refine⟨rfl,⟨⟨by omega,by omega,h3,h4,by rw[List.length_set];exact h5,hdl⟩,?_⟩,hmu⟩
    rw[show(i+1).toNat=i.toNat+1 by omega,take_set_succ hi',List.append_assoc,Bool.or_assoc,hv]
    exact h
   have hget: ∀v:Int,(x.set i.toNat v).getD i.toNat 0=v:=fun v=>by rw[getD_of_lt (by rw[List.length_set];exact hi')];simp
   simp only[Nat.zero_add,Nat.add_zero,List.length_set,hi,h1,hi',hw,hget,decide_true,Bool.and_self,cond_true]
   refine⟨⟨h3,h4,by omega⟩,?_⟩
   cases hr:(codeV c.toNat l).tmod 2==1 with
   |true=>exact(key (IntKind.i64.wrap (expG p last bef+IntKind.i64.wrap (IntKind.i64.wrap (0-IntKind.i64.wrap ((codeV c.toNat l).tdiv 2))-1))) (by unfold resid;rw[hr];rfl)).2
   |false=>exact(key (IntKind.i64.wrap (expG p last bef+IntKind.i64.wrap ((codeV c.toNat l).tdiv 2))) (by unfold resid;rw[hr];rfl)).2
  ·have e0:i=8:=by omega
   subst e0
   simp only[hi,decide_false,cond_false]
   have e1:(8-8:Int).toNat=0:=rfl
   rw[e1] at h
   simp only[unpX,unpL,unpE,Bool.or_false,List.append_nil] at h
   rw[List.take_of_length_le (by show x.length≤8;omega)] at h
   exact h
 ·exact h.elim
theorem bit_range{b:Int}(h:oddB b=false):0≤b∧b≤1:=by
 unfold oddB withinG at h
 simpa using h
theorem bits_get{l:List Int}(h:l.any oddB=false)(j:Nat):0≤l.getD j 0∧l.getD j 0≤1:=by
 by_cases hj:j<l.length
 ·rw[getD_of_lt hj]
  refine bit_range ?_
  have:=List.any_eq_false.1 h _ (List.getElem_mem hj)
  simpa using this
 ·rw[List.getD,List.getElem?_eq_none (by omega)];decide
theorem any_drop{l:List Int}(h:l.any oddB=false)(j:Nat):(l.drop j).any oddB=false:= List.any_eq_false.2 fun x hx=>List.any_eq_false.1 h x (List.mem_of_mem_drop hx)
theorem readV_range: ∀(c:Nat) (n:Int) (l:List Int),l.any oddB=false→0≤n→(n+1)*2^c≤4611686018427387904→0≤readV c n l∧readV c n l+1≤(n+1)*2^c
 |0,n,l,_,h0,_=>by simp[readV];omega
 |c+1,n,l,h,h0,hb=>by
  have hg:=bits_get h 0
  have hp:(1:Int)≤2^c:=by have:(0:Int)<2^c:=Int.pow_pos (by decide);omega
  have e:(n+1)*2^(c+1)=(2*n+2)*2^c:=by
   rw[Int.pow_succ,Int.mul_comm (2^c) 2,← Int.mul_assoc]
   congr 1
   omega
  have h2:(2*n+2)≤(2*n+2)*2^c:=by
   have:=Int.mul_le_mul_of_nonneg_left hp (show 0≤2*n+2 by omega)
   omega
  rw[e] at hb ⊢
  have hw:wi (wi (2*n)+l.getD 0 0)=2*n+l.getD 0 0:=by rw[wi_id (n:=2*n) (by omega) (by omega),wi_id (by omega) (by omega)]
  simp only[readV]
  rw[hw]
  have h3:(2*n+l.getD 0 0+1)*2^c≤(2*n+2)*2^c:=Int.mul_le_mul_of_nonneg_right (by omega) (by omega)
  have ih:=readV_range c (2*n+l.getD 0 0) (l.drop 1) (any_drop h 1) (by omega) (by omega)
  omega
theorem any_of_idx{l:List Int}(h:decide (idxI 0 l≥0)=false):l.any oddB=false:=by
 rw[decide_eq_false_iff_not] at h
 cases ha:l.any oddB with
 |false=>rfl
 |true=>exact absurd (idx_some (i:=0) ha) h
theorem unpX_length(p:Int)(k:Nat): ∀(n:Nat) (last bef:Int) (l:List Int),(unpX p k n last bef l).length=n
 |0,_,_,_=>rfl
 |n+1,_,_,_=>by simp[unpX,unpX_length p k n]
theorem ok47:SpecOK Tryz.prog 23 unpackS:=by
 refine specOK (n:=96) (m:=0) (lps:=[(12,.spec [2,6,7,8,9,10,11,49] [2,6,9] unpLS)]) unp_all Tryz.func23 (by kernel_rfl) (by kernel_rfl) (theLoops (n:=1) (by kernel_rfl) fun i hi=> ?_) fun args σ K h=> ?_
 ·match i,hi with
  |0,_=>exact loopHyp_of (key:=12) (by kernel_rfl) rfl lok47
 ·unfold unpackS at h
  split at h
  ·rename_i l
   rw[ex47 l K]
   obtain⟨h1,h⟩:=h
   refine⟨h1,by simp,?_⟩
   unfold unpackE at h
   change bif badE l != 0 then K (ag8e zeros8 (badE l)) [] else _
   cases hb:badE l != 0 with
   |true=>
    rw[hb] at h
    have hb':(badE l==0)=false:=by simpa [bne] using hb
    simp only[cond_true,hb',cond_false] at h
    exact h
   |false=>
    rw[hb] at h
    simp only[cond_false] at h
    have hb0:badE l=0:=by simpa using hb
    have hlen:l.length≤3000∧7≤l.length∧l.any oddB=false:=by
     unfold badE at hb0
     cases a1:decide ((l.length:Int)≤3000)<;>cases a2:decide (idxI 0 l≥0)<;>cases a3:decide ((l.length:Int)≥7)<;>rw[a1,a2,a3] at hb0<;>first
      |(exact absurd hb0 (by decide))
      |(simp only[decide_eq_true_eq] at a1 a3;exact⟨by omega,by omega,any_of_idx a2⟩)
    obtain⟨hl1,hl2,hodd⟩:=hlen
    have hr:=readV_range 5 0 (l.drop 2) (any_drop hodd 2) (by decide) (by decide)
    change _∧_∧bif decide (prG l≥3) then K (ag8e zeros8 3) [] else bif decide (paG l≥18) then K (ag8e zeros8 3) [] else _
    refine⟨⟨by decide,by decide⟩,⟨by decide,by decide⟩,?_⟩
    cases hp:decide (prG l≥3) with
    |true=>rw[hp] at h;exact h
    |false=>
     cases hq:decide (paG l≥18) with
     |true=>rw[hp,hq] at h;exact h
     |false=>
      rw[hp,hq] at h
      simp only[Bool.or_self,cond_false] at h ⊢
      have hq':paG l≤17:=by simp at hq;omega
      have hq0:0≤paG l:=hr.1
      have e7:(l.drop 2).drop 5=l.drop 7:=by rw[List.drop_drop]
      have ep:readV 5 0 (l.drop 2)=paG l:=rfl
      have eq:readV 2 0 l=prG l:=rfl
      rw[e7,ep,eq,list8 (unpX_length _ _ 8 _ _ _)]
      have hf1:decide (l.length<2)=false:=by simp;omega
      have hf2:decide ((l.drop 2).length<5)=false:=by simp;omega
      have hi:decide (((unpL (paG l).toNat 8 (l.drop 7)).length:Int)>0)=decide ((unpL (paG l).toNat 8 (l.drop 7)).length>0):=decide_eq_decide.2 (by omega)
      refine⟨⟨by decide,by decide,hq0,by omega,trivial,by rw[List.length_drop];omega⟩,?_⟩
      rw[hf1,hf2,hi]
      simp only[Bool.false_or]
      change (bif unpE (paG l).toNat 8 (l.drop 7) then K (ag8e zeros8 10) [] else bif decide ((unpL (paG l).toNat 8 (l.drop 7)).length>0) then K (ag8e zeros8 10) [] else
       bif (bif (unpackX l).all sampleG then 0 else 2)!=0 then K (ag8e zeros8 (bif (unpackX l).all sampleG then 0 else 2)) [] else K (ag8e (unpackX l) 0) [])
      cases hu:unpE (paG l).toNat 8 (l.drop 7) with
      |true=>rw[hu] at h;exact h
      |false=>
       cases hv:decide ((unpL (paG l).toNat 8 (l.drop 7)).length>0) with
       |true=>rw[hu,hv] at h;exact h
       |false=>cases ha:(unpackX l).all sampleG<;>rw[hu,hv,ha] at h<;>exact h
  ·exact h.elim
end Go.Ev
namespace Go.Ev
open Go Go.Proofs
set_option maxRecDepth 20000
def len11(xs:List Int):Bool:=xs.length==11
theorem eq11{xs ys:List Int}(h1:xs.length=11)(h2:ys.length=11):(xs.getD 0 0==ys.getD 0 0&&(xs.getD 1 0==ys.getD 1 0&&((xs.getD 2 0==ys.getD 2 0&&(xs.getD 3 0==ys.getD 3 0&&(xs.getD 4 0==ys.getD 4 0&&(xs.getD 5 0==ys.getD 5 0&&(xs.getD 6 0==ys.getD 6 0&&(xs.getD 7 0==ys.getD 7 0&&(xs.getD 8 0==ys.getD 8 0&&xs.getD 9 0==ys.getD 9 0)))))))&&xs.getD 10 0==ys.getD 10 0)))=(xs==ys):=by
 match xs,ys,h1,h2 with
 |[a0,a1,a2,a3,a4,a5,a6,a7,a8,a9,a10],[b0,b1,b2,b3,b4,b5,b6,b7,b8,b9,b10],_,_=>simp[List.cons_beq_cons,Bool.and_assoc]
end Go.Ev
namespace Go.Ev
open Go Go.Proofs
set_option maxRecDepth 20000
def copyIntsS:Spec:=fun args σ K=>match args,σ with
 |[.one (.data (.ints .i64 l))],[]=>l.length≤1000000000000∧K (.one (.own 0 1)) [.row 3 (.ints .i64 l)]
 |_,_=>False
noncomputable abbrev E35:Env:=envOf Tryz.prog [] [] 6 0
end Go.Ev
namespace Go.Ev
open Go Go.Proofs
set_option maxRecDepth 100000
theorem ex35(l:List Int)(K:AV→List Blk→Prop):evFn E35 Tryz.f21 [.one (.data (.ints .i64 l))] [] K=(bif decide (l.length*8≤140737488355328∧l.length≤140737488355328) then K (.one (.own 0 1)) [Blk.row 3 (Row.ints .i64 l)] else False):=by kernel_rfl
end Go.Ev
namespace Go.Ev
open Go Go.Proofs
attribute [local irreducible] evFn evBody evRound
set_option maxRecDepth 20000
theorem ok35:SpecOK Tryz.prog 21 copyIntsS:=by
 refine specOK (n:=6) (m:=0) (lps:=[]) .nil Tryz.func21 (by kernel_rfl) (by kernel_rfl) (noLoops (by kernel_rfl)) fun args σ K h=> ?_
 unfold copyIntsS at h
 split at h
 ·rename_i l
  rw[ex35 l K]
  obtain⟨h1,h⟩:=h
  rw[decide_eq_true (by omega),cond_true]
  exact h
 ·exact h.elim
end Go.Ev
namespace Go.Ev
open Go Go.Proofs
attribute [local irreducible] evFn evBody evRound
set_option maxRecDepth 20000
theorem unpE_s(k n:Nat)(l:List Int):unpE k (n+1) l=(decide (l.length<onesN l+1+k)||unpE k n (l.drop (onesN l+1+k))):=rfl
theorem unpL_s(k n:Nat)(l:List Int):unpL k (n+1) l=unpL k n (l.drop (onesN l+1+k)):=rfl
theorem idx_of_any{l:List Int}:decide (idxI 0 l≥0)=l.any oddB:=by
 cases ha:l.any oddB with
 |true=>exact decide_eq_true (idx_some ha)
 |false=>rw[idx_none ha];rfl
end Go.Ev
namespace Go.Ev
open Go Go.Proofs
set_option maxRecDepth 20000
def packedVS:Spec:=fun args σ K=>match args,σ with
 |[.agg [.int .i64 x0,.int .i64 x1,.int .i64 x2,.int .i64 x3,.int .i64 x4,.int .i64 x5,.int .i64 x6,.int .i64 x7]],[]=> ∀(c:Bool) (B:List Int),c=[x0,x1,x2,x3,x4,x5,x6,x7].all sampleG→B=packG [x0,x1,x2,x3,x4,x5,x6,x7]→bif c then K (.tup [.one (.own 0 1),.one (.int .i64 0)]) [.row 3 (.ints .i64 B)] else K (.tup [.one .nil,.one (.int .i64 2)]) []
 |_,_=>False
def unpackVS:Spec:=fun args σ K=>match args,σ with
 |[.one (.data (.ints .i64 l))],[]=>l.length≤1000000000∧ ∀(e:Int) (ys:List Int),e=unpackE l→ys=unpackX l→bif e==0 then K (ag8e ys 0) [] else K (ag8e zeros8 e) []
 |_,_=>False
end Go.Ev
namespace Go.Ev
open Go Go.Proofs
attribute [local irreducible] evFn evBody
set_option maxRecDepth 20000
theorem codes_len{k:Int}(hk:0≤k∧k≤17): ∀{us:List Int},(∀u ∈ us,0≤u∧u≤262136)→((codesG k us).length:Int)=lenR k us
 |[],_=>rfl
 |u::us,h=>by
  have ih:=codes_len hk (us:=us) fun v hv=>h v (by simp[hv])
  have hu:=fdiv_range (min k.toNat 64) (h u (by simp))
  simp only[codesG,lenR,shrG,List.length_append,List.length_replicate,List.length_cons,List.length_nil,bitsN_length]
  omega
theorem pack_len{xs:List Int}(h:xs.all sampleG=true):((packG xs).length:Int)=lenG (bestG xs).2.1 (bestG xs).2.2 xs:=by
 unfold packG lenG
 simp only[List.length_append,bitsN_length]
 have:=codes_len (best_range xs) (cod_range (p:=(bestG xs).2.1) h)
 omega
theorem bst_le{xs:List Int}{p k:Int}{s:Tri}(h:Told xs s)(h0:s.1≠0):(bst xs p k s).1≤s.1∧(bst xs p k s).1≤lenG p k xs:=by
 unfold bst
 rw[beq_eq_false_iff_ne.2 h0]
 by_cases hl:lenG p k xs<s.1
 ·rw[decide_eq_true hl];exact⟨Int.le_of_lt hl,Int.le_refl _⟩
 ·rw[decide_eq_false hl];exact⟨Int.le_refl _,by simp only[cond_false];omega⟩
def Pos(s:Tri):Prop:=0<s.1
theorem bst_pos{xs:List Int}(ha:xs.all sampleG=true){p k:Int}(hk:0≤k){s:Tri}(h:Pos s):Pos (bst xs p k s):=by
 have hl:=lenG_pos (p:=p) ha hk
 unfold bst Pos
 cases s.1==0 with
 |true=>exact hl
 |false=>cases decide (lenG p k xs<s.1) with
  |true=>exact hl
  |false=>exact h
theorem bestK_le{xs:List Int}(ha:xs.all sampleG=true){p:Int}: ∀(n:Nat) (k:Int) (s:Tri),0≤k→Told xs s→Pos s→Pos (bestK xs p n k s)∧(bestK xs p n k s).1≤s.1∧ ∀j,k≤j→j<k+n→(bestK xs p n k s).1≤lenG p j xs
 |0,k,s,_,_,hp=>⟨hp,Int.le_refl _,fun j h1 h2=>by omega⟩
 |n+1,k,s,hk,ht,hp=>by
  obtain⟨b1,b2⟩:=bst_le (p:=p) (k:=k) ht (by have:0<s.1:=hp;omega)
  obtain⟨i1,i2,i3⟩:=bestK_le ha (p:=p) n (k+1) (bst xs p k s) (by omega) (bst_told ht) (bst_pos ha hk hp)
  refine⟨i1,Int.le_trans i2 b1,fun j h1 h2=> ?_⟩
  by_cases hj:j=k
  ·subst hj;exact Int.le_trans i2 b2
  ·exact i3 j (by omega) (by omega)
theorem bestP_le{xs:List Int}(ha:xs.all sampleG=true): ∀(n:Nat) (p:Int) (s:Tri),Told xs s→Pos s→Told xs (bestP xs n p s)∧(bestP xs n p s).1≤s.1∧ ∀q j,p≤q→q<p+n→0≤j→j≤17→(bestP xs n p s).1≤lenG q j xs
 |0,p,s,ht,_=>⟨ht,Int.le_refl _,fun q j h1 h2=>by omega⟩
 |n+1,p,s,ht,hp=>by
  obtain⟨k1,k2,k3⟩:=bestK_le ha (p:=p) 18 0 s (by decide) ht hp
  obtain⟨i0,i1,i2⟩:=bestP_le ha n (p+1) (bestK xs p 18 0 s) (bestK_told 18 0 s ht) k1
  refine⟨i0,Int.le_trans i1 k2,fun q j h1 h2 h3 h4=> ?_⟩
  by_cases hq:q=p
  ·subst hq;exact Int.le_trans i1 (k3 j (by omega) (by omega))
  ·exact i2 q j (by omega) (by omega) h3 h4
theorem best_least{xs:List Int}(ha:xs.all sampleG=true):lenG (bestG xs).2.1 (bestG xs).2.2 xs=(bestG xs).1∧ ∀p k,0≤p→p≤2→0≤k→k≤17→(bestG xs).1≤lenG p k xs:=by
 rw[← best_start ha]
 obtain⟨h1,_,h3⟩:=bestP_le ha 3 0 (lenG 0 0 xs,0,0) rfl (lenG_pos ha (by decide))
 exact⟨h1.symm,fun p k a b c d=>h3 p k a (by omega) c d⟩
theorem exp0(l b:Int):expG 0 l b=0:=rfl
theorem cod0_range: ∀{xs:List Int} {l b:Int},(∀x ∈ xs,-32767≤x∧x≤32767)→ ∀u ∈ codR 0 l b xs,0≤u∧u≤65534
 |[],_,_,_,u,hu=>by simp[codR] at hu
 |x::xs,l,b,hx,u,hu=>by
  have hx0:=hx x (by simp)
  simp only[codR,List.mem_cons] at hu
  rcases hu with rfl|hu
  ·rw[exp0,Int.sub_zero,wi_id (n:=x) (by omega) (by omega)]
   unfold foldG
   by_cases h0:x≥0
   ·simp only[h0,decide_true,cond_true]
    rw[wi_id (by omega) (by omega)]
    omega
   ·simp only[h0,decide_false,cond_false]
    rw[wi_id (n:= -2*x) (by omega) (by omega),wi_id (by omega) (by omega)]
    omega
  ·exact cod0_range (fun y hy=>hx y (by simp[hy])) u hu
theorem lenR_small: ∀{us:List Int},(∀u ∈ us,0≤u∧u≤65534)→lenR 17 us=18*us.length
 |[],_=>rfl
 |u::us,h=>by
  have hu:=h u (by simp)
  have e:shrG u 17=0:=by
   unfold shrG
   rw[show min (17:Int).toNat 64=17 from rfl,fdiv_pow,show(2:Int)^17=131072 by decide]
   omega
  have ih:=lenR_small (us:=us) fun v hv=>h v (List.mem_cons_of_mem u hv)
  simp only[lenR,e,ih,List.length_cons]
  omega
theorem lenR_ge{k:Int}(hk:0≤k): ∀{us:List Int},(∀u ∈ us,0≤u∧u≤262136)→(us.length:Int)≤lenR k us
 |[],_=>Int.le_refl _
 |u::us,h=>by
  have ih:=lenR_ge hk fun v hv=>h v (List.mem_cons_of_mem u hv)
  have hu:=fdiv_range (min k.toNat 64) (h u (by simp))
  simp only[lenR,shrG,List.length_cons]
  omega
theorem codR_length(p:Int): ∀(xs:List Int) (l b:Int),(codR p l b xs).length=xs.length
 |[],_,_=>rfl
 |x::xs,_,_=>by simp[codR,codR_length p xs]
theorem pack_bounds{xs:List Int}(h:xs.all sampleG=true)(h8:xs.length=8):15≤(packG xs).length∧(packG xs).length≤159:=by
 have h1:=pack_len h
 obtain⟨h2,h3⟩:=best_least h
 have h4:=h3 0 17 (by decide) (by decide) (by decide) (by decide)
 have h5:lenG 0 17 xs=7+18*8:=by
  unfold lenG codG
  rw[lenR_small (cod0_range fun x hx=>sample_range (List.all_eq_true.1 h x hx)),codR_length,h8]
  rfl
 have h6:=lenR_ge (best_range xs).1 (cod_range (p:=(bestG xs).2.1) h)
 rw[show(codG (bestG xs).2.1 xs).length=8 from(codR_length _ _ _ _).trans h8] at h6
 unfold lenG at h2 h1
 omega
theorem bitG_bit{n:Int}{i:Nat}(h0:0≤n)(h1:n<9223372036854775808)(hi:i≤62):oddB (bitG n i)=false:=by
 rw[bitG_eq h0 h1 hi]
 unfold oddB withinG
 have:0≤n/2^i%2∧n/2^i%2≤1:=by omega
 simp[this]
theorem bitsN_bits{n:Int}(h0:0≤n)(h1:n<9223372036854775808): ∀c,c≤63→(bitsN n c).any oddB=false
 |0,_=>rfl
 |c+1,h=>by
  simp only[bitsN,List.any_cons,bitG_bit h0 h1 (show c≤62 by omega),Bool.false_or]
  exact bitsN_bits h0 h1 c (by omega)
theorem codes_bits{k:Int}(hk:0≤k∧k≤17): ∀{us:List Int},(∀u ∈ us,0≤u∧u≤262136)→(codesG k us).any oddB=false
 |[],_=>rfl
 |u::us,h=>by
  have ih:=codes_bits hk (us:=us) fun v hv=>h v (by simp[hv])
  have hu:=h u (by simp)
  have hr: ∀n:Nat,(List.replicate n (1:Int)).any oddB=false:=fun n=>by
   rw[List.any_eq_false]
   intro x hx
   rw[(List.mem_replicate.1 hx).2]
   decide
  simp only[codesG,List.any_append,hr,ih,bitsN_bits hu.1 (show u<9223372036854775808 by omega) _ (show k.toNat≤63 by omega),Bool.or_false,Bool.false_or]
  decide
theorem pack_bits{xs:List Int}(h:xs.all sampleG=true):(packG xs).any oddB=false:=by
 have hf:=best_first xs
 have hr:=best_range xs
 unfold packG
 simp only[List.any_append,bitsN_bits hf.1 (show(bestG xs).2.1<9223372036854775808 by omega) 2 (by decide),bitsN_bits hr.1 (show(bestG xs).2.2<9223372036854775808 by omega) 5 (by decide),codes_bits hr (cod_range (p:=(bestG xs).2.1) h),Bool.or_false]
theorem mod_double{n m:Int}(hm:0<m):n%(m*2)=m*(n/m%2)+n%m:=by
 have h1:=Int.emod_add_mul_ediv n m
 have h2:=Int.emod_add_mul_ediv (n/m) 2
 have h3:=Int.emod_nonneg n (show m≠0 by omega)
 have h4:=Int.emod_lt_of_pos n hm
 have h5:n/m%2=0∨n/m%2=1:=by omega
 have e:n=(m*(n/m%2)+n%m)+(m*2)*(n/m/2):=by
  have e1:m*(n/m)=m*(n/m%2)+(m*2)*(n/m/2):=by
   rw[Int.mul_assoc,← Int.mul_add,h2]
  omega
 have hb:0≤m*(n/m%2)+n%m∧m*(n/m%2)+n%m<m*2:=by
  rcases h5 with h5|h5<;>rw[h5]<;>omega
 calc n%(m*2)=((m*(n/m%2)+n%m)+(m*2)*(n/m/2))%(m*2):=by rw[← e]
  _=_:=by rw[Int.add_mul_emod_self_left,Int.emod_eq_of_lt hb.1 hb.2]
theorem readV_bits{n:Int}(h0:0≤n)(h1:n<9223372036854775808): ∀(c:Nat) (a:Int) (rest:List Int),c≤62→0≤a→(a+1)*2^c≤4611686018427387904→readV c a (bitsN n c++rest)=a*2^c+n%2^c
 |0,a,rest,_,_,_=>by simp[readV,bitsN,Int.emod_one]
 |c+1,a,rest,hc,ha,hb=>by
  have hp:(1:Int)≤2^c:=by have:(0:Int)<2^c:=Int.pow_pos (by decide);omega
  have e:(a+1)*2^(c+1)=(2*a+2)*2^c:=by
   rw[Int.pow_succ,Int.mul_comm (2^c) 2,← Int.mul_assoc]
   congr 1
   omega
  have h2:(2*a+2)≤(2*a+2)*2^c:=by
   have:=Int.mul_le_mul_of_nonneg_left hp (show 0≤2*a+2 by omega)
   omega
  rw[e] at hb
  have hbit:bitG n c=n/2^c%2:=bitG_eq h0 h1 (by omega)
  have hbr:0≤n/2^c%2∧n/2^c%2≤1:=by omega
  have hw:wi (wi (2*a)+bitG n c)=2*a+n/2^c%2:=by rw[hbit,wi_id (n:=2*a) (by omega) (by omega),wi_id (by omega) (by omega)]
  simp only[bitsN,List.cons_append,readV,List.getD_cons_zero,List.drop_succ_cons,List.drop_zero]
  rw[hw]
  have h3:(2*a+n/2^c%2+1)*2^c≤(2*a+2)*2^c:=Int.mul_le_mul_of_nonneg_right (by omega) (by omega)
  rw[readV_bits h0 h1 c _ rest (by omega) (by omega) (by omega),Int.pow_succ,mod_double (by omega),Int.add_mul]
  have e5:a*(2^c*2)=2*a*2^c:=by rw[Int.mul_comm (2^c) 2,← Int.mul_assoc,Int.mul_comm a 2]
  rw[e5,Int.mul_comm (2^c) (n/2^c%2)]
  omega
theorem ones_rep: ∀(q:Nat) (l:List Int),onesN (List.replicate q 1++0::l)=q
 |0,l=>rfl
 |q+1,l=>by
  simp only[List.replicate_succ,List.cons_append,onesN,ones_rep q l]
  rfl
def code1(k:Int)(u:Int):List Int:=List.replicate (u.fdiv (2^min k.toNat 64)).toNat 1++[0]++bitsN u k.toNat
theorem codes_cons(k u:Int)(us:List Int):codesG k (u::us)=code1 k u++codesG k us:=rfl
theorem code1_length(k u:Int):(code1 k u).length=(u.fdiv (2^min k.toNat 64)).toNat+1+k.toNat:=by
 unfold code1
 simp only[List.length_append,List.length_replicate,List.length_cons,List.length_nil,bitsN_length]
theorem code1_read{k u:Int}(hk:0≤k∧k≤17)(hu:0≤u∧u≤262136)(rest:List Int):
  onesN (code1 k u++rest)=(u.fdiv (2^min k.toNat 64)).toNat∧(code1 k u++rest).drop (onesN (code1 k u++rest)+1+k.toNat)=rest∧codeV k.toNat (code1 k u++rest)=u:=by
 have hq:=fdiv_range (min k.toNat 64) hu
 have e1:code1 k u++rest=List.replicate (u.fdiv (2^min k.toNat 64)).toNat 1++0::(bitsN u k.toNat++rest):=by
  unfold code1;simp
 have ho:onesN (code1 k u++rest)=(u.fdiv (2^min k.toNat 64)).toNat:=by rw[e1,ones_rep]
 refine⟨ho,?_,?_⟩
 ·rw[ho,← code1_length,List.drop_left]
 ·unfold codeV
  rw[ho]
  have e2:(code1 k u++rest).drop ((u.fdiv (2^min k.toNat 64)).toNat+1)=bitsN u k.toNat++rest:=by
   rw[e1,← List.drop_drop,List.drop_left' (by simp)]
   rfl
  have hp:(1:Int)≤2^k.toNat∧(2:Int)^k.toNat≤131072:=by
   have h1:(2:Nat)^k.toNat≤2^17:=Nat.pow_le_pow_right (by decide) (by omega)
   have h2:0<(2:Nat)^k.toNat:=Nat.pow_pos (by decide)
   have ep:((2^k.toNat:Nat):Int)=(2:Int)^k.toNat:=by simp
   have e17:(2:Nat)^17=131072:=by decide
   omega
  rw[e2,readV_bits hu.1 (by omega) _ _ _ (by omega) (by decide) (by omega),Nat.min_eq_left (show k.toNat≤64 by omega),Int.zero_mul,Int.zero_add]
  rw[Nat.min_eq_left (show k.toNat≤64 by omega)] at hq
  have hdm:=Int.emod_add_mul_ediv u (2^k.toNat)
  rw[fdiv_pow] at hq ⊢
  have hm0:=Int.emod_nonneg u (show(2:Int)^k.toNat≠0 by omega)
  rw[Int.toNat_of_nonneg hq.1,Int.mul_comm,wi_id (n:=2^k.toNat*(u/2^k.toNat)) (by omega) (by omega),wi_id (by omega) (by omega)]
  omega
theorem resid_fold{r:Int}(h: -131068≤r∧r≤131068):resid (foldG r)=r:=by
 unfold foldG
 by_cases h0:r≥0
 ·simp only[h0,decide_true,cond_true]
  rw[wi_id (by omega) (by omega)]
  unfold resid
  rw[Int.tmod_eq_emod_of_nonneg (by omega),Int.tdiv_eq_ediv_of_nonneg (by omega)]
  rw[show 2*r%2=0 by omega]
  show wi (2*r/2)=r
  rw[wi_id (by omega) (by omega)]
  omega
 ·simp only[h0,decide_false,cond_false]
  rw[wi_id (n:= -2*r) (by omega) (by omega),wi_id (by omega) (by omega)]
  unfold resid
  rw[Int.tmod_eq_emod_of_nonneg (by omega),Int.tdiv_eq_ediv_of_nonneg (by omega)]
  rw[show(-2*r-1)%2=1 by omega]
  show wi (wi (0-wi ((-2*r-1)/2))-1)=r
  rw[wi_id (n:=(-2*r-1)/2) (by omega) (by omega),wi_id (n:=0-(-2*r-1)/2) (by omega) (by omega),wi_id (by omega) (by omega)]
  omega
theorem unp_codes{p k:Int}(hk:0≤k∧k≤17): ∀(xs:List Int) (l b:Int) (rest:List Int),(∀x ∈ xs,-32767≤x∧x≤32767)→(-32767≤l∧l≤32767)→(-32767≤b∧b≤32767)→
  unpX p k.toNat xs.length l b (codesG k (codR p l b xs)++rest)=xs∧unpL k.toNat xs.length (codesG k (codR p l b xs)++rest)=rest∧unpE k.toNat xs.length (codesG k (codR p l b xs)++rest)=false
 |[],_,_,_,_,_,_=>⟨rfl,rfl,rfl⟩
 |x::xs,l,b,rest,hx,hl,hb=>by
  have hx0:=hx x (by simp)
  have he:=exp_range (p:=p) hl hb
  have hr:wi (x-expG p l b)=x-expG p l b:=wi_id (by omega) (by omega)
  have hu:=fold_range (r:=x-expG p l b) (by omega)
  obtain⟨i1,i2,i3⟩:=unp_codes (p:=p) hk xs x l rest (fun y hy=>hx y (by simp[hy])) hx0 hl
  simp only[codR,hr,codes_cons,List.append_assoc,List.length_cons]
  obtain⟨c1,c2,c3⟩:=code1_read hk hu (codesG k (codR p x l xs)++rest)
  have hf:=resid_fold (r:=x-expG p l b) (by omega)
  have hw:wi (expG p l b+(x-expG p l b))=x:=by rw[wi_id (by omega) (by omega)];omega
  refine⟨?_,?_,?_⟩
  ·simp only[unpX]
   rw[c3,c2,hf,hw,i1]
  ·rw[unpL_s,c2,i2]
  ·rw[unpE_s,c2,i3,c1,Bool.or_false]
   refine decide_eq_false ?_
   rw[List.length_append,code1_length]
   omega
theorem pow_pack(xs:List Int):packG xs=bitsN (bestG xs).2.1 2++(bitsN (bestG xs).2.2 5++codesG (bestG xs).2.2 (codG (bestG xs).2.1 xs)):=by
 unfold packG;rw[List.append_assoc]
theorem heads(p k:Int)(hp:0≤p∧p≤2)(hk:0≤k∧k≤17)(cs:List Int):
  prG (bitsN p 2++(bitsN k 5++cs))=p∧paG (bitsN p 2++(bitsN k 5++cs))=k∧(bitsN p 2++(bitsN k 5++cs)).drop 7=cs∧(bitsN p 2++(bitsN k 5++cs)).drop 2=bitsN k 5++cs∧(bitsN p 2++(bitsN k 5++cs)).length=7+cs.length:=by
 have e2:(bitsN p 2++(bitsN k 5++cs)).drop 2=bitsN k 5++cs:=List.drop_left' (bitsN_length p 2)
 refine⟨?_,?_,?_,e2,?_⟩
 ·unfold prG
  rw[readV_bits hp.1 (by omega) 2 0 _ (by decide) (by decide) (by decide)]
  have:(2:Int)^2=4:=by decide
  rw[this]
  omega
 ·unfold paG
  rw[e2,readV_bits hk.1 (by omega) 5 0 _ (by decide) (by decide) (by decide)]
  have:(2:Int)^5=32:=by decide
  rw[this]
  omega
 ·rw[← List.append_assoc]
  exact List.drop_left' (by rw[List.length_append,bitsN_length,bitsN_length])
 ·rw[List.length_append,List.length_append,bitsN_length,bitsN_length]
  omega
theorem best_first3(xs:List Int):0≤(bestG xs).2.1∧(bestG xs).2.1≤2:=by
 have:=best_first xs
 omega
theorem pack_unpack{xs:List Int}(h:xs.all sampleG=true)(h8:xs.length=8):unpackE (packG xs)=0∧unpackX (packG xs)=xs∧prG (packG xs)=(bestG xs).2.1∧paG (packG xs)=(bestG xs).2.2:=by
 have hb:=pack_bounds h h8
 have hbits:=pack_bits h
 have hp:=best_first3 xs
 have hk:=best_range xs
 obtain⟨q1,q2,q3,_,_⟩:=heads (bestG xs).2.1 (bestG xs).2.2 hp hk (codesG (bestG xs).2.2 (codG (bestG xs).2.1 xs))
 rw[← pow_pack] at q1 q2 q3
 have hx: ∀x ∈ xs,-32767≤x∧x≤32767:=fun x hx=>sample_range (List.all_eq_true.1 h x hx)
 obtain⟨u1,u2,u3⟩:=unp_codes (p:=(bestG xs).2.1) hk xs 0 0 [] hx (by decide) (by decide)
 rw[List.append_nil,h8] at u1 u2 u3
 have hX:unpackX (packG xs)=xs:=by
  unfold unpackX
  rw[q1,q2,q3]
  exact u1
 refine⟨?_,hX,q1,q2⟩
 unfold unpackE
 have hbad:badE (packG xs)=0:=by
  unfold badE
  rw[idx_of_any,hbits]
  have c1:((packG xs).length:Int)≤3000:=by omega
  have c2:((packG xs).length:Int)≥7:=by omega
  simp only[c1,c2,decide_true,Bool.not_false,cond_true]
  rfl
 rw[hbad,hX,q1,q2,q3]
 unfold codG
 rw[u2,u3,h]
 have c3:¬(bestG xs).2.1≥3:=by omega
 have c4:¬(bestG xs).2.2≥18:=by omega
 simp only[c3,c4,decide_false]
 rfl
theorem ok28V:SpecOK Tryz.prog 22 packedVS:=ok28.weak fun args σ K h=>by
 unfold packedVS at h
 split at h
 ·exact h _ _ rfl rfl
 ·exact h.elim
theorem ok47V:SpecOK Tryz.prog 23 unpackVS:=ok47.weak fun args σ K h=>by
 unfold unpackVS at h
 split at h
 ·exact⟨h.1,by have:=h.2 _ _ rfl rfl;exact this⟩
 ·exact h.elim
end Go.Ev
namespace Go.Ev
open Go Go.Proofs
set_option maxRecDepth 20000
def chunkC(l:List Int):Nat→List (List Int)
 |0=>[]
 |c+1=>l.take 8::chunkC (l.drop 8) c
def countN(l:List Int):Nat:=(l.length+7)/8
def item1(c:List Int):List AV:=[.one (.data (.ints .i64 c))]
def chunkI(l:List Int):List (List AV):=(chunkC l (countN l)).map item1
def chunkSq:SeqSpec:=fun caps lent=>match caps,lent with
 |[.one (.ptr 1 1 0 0),.one (.ptr 2 1 0 0)],[.cells [.data (.ints .i64 l)],.cells [.int .i64 n]]=>some (decide (n=8)&&decide (l.length≤1000000),chunkI l)
 |_,_=>none
def chunkL:LSpec:=fun vs σ k=>match vs,σ with
 |[.one (.yld 0),.one (.ptr 1 1 0 0),.one (.ptr 2 1 0 0),.one (.int .i64 i)],[.ghost P J D (some L),.cells [.data (.ints .i64 l)],.cells [.int .i64 n]]=>
  (P=Tryz.prog∧n=8∧l.length≤1000000∧0≤i∧i≤l.length+8∧L=chunkI (l.drop i.toNat))∧
  ∀D',k (.exit 0) [] [.ghost P J D' (some []),.cells [.data (.ints .i64 l)],.cells [.int .i64 n]]∧k .ret [] [.ghost P J D' none,.cells [.data (.ints .i64 l)],.cells [.int .i64 n]]
 |_,_=>False
def chunkS:Spec:=fun args σ K=>match args,σ with
 |[.one (.data (.ints .i64 l)),.one (.int .i64 n)],[]=>n=8∧K (.one (.func 103 [0,1])) [.cells [.data (.ints .i64 l)],.cells [.int .i64 n]]
 |_,_=>False
def floorS:Spec:=fun args σ K=>match args,σ with
 |[.one (.int .i64 n),.one (.int .i64 b)],[]=>(b=8∧ -1000000000≤n∧n≤1000000000)∧K (.one (.int .i64 (n/8))) []
 |_,_=>False
def ceilS:Spec:=fun args σ K=>match args,σ with
 |[.one (.int .i64 n),.one (.int .i64 b)],[]=>(b=8∧0≤n∧n≤1000000000)∧K (.one (.int .i64 ((n+7)/8))) []
 |_,_=>False
def countS:Spec:=fun args σ K=>match args,σ with
 |[.one (.data (.ints .i64 l))],[]=>l.length≤1000000000∧K (.one (.int .i64 ((countN l:Nat):Int))) []
 |_,_=>False
def pad8(p:List Int):List Int:=[p.getD 0 0,p.getD 1 0,p.getD 2 0,p.getD 3 0,p.getD 4 0,p.getD 5 0,p.getD 6 0,p.getD 7 0]
def blkRow(c ch:Int)(p:List Int):List Int:=[c,ch,p.getD 0 0,p.getD 1 0,p.getD 2 0,p.getD 3 0,p.getD 4 0,p.getD 5 0,p.getD 6 0,p.getD 7 0,sumG c ch (pad8 p)]
def blkRows(ch:Int):Int→List (List Int)→List (List Int)
 |_,[]=>[]
 |c,p::l=>blkRow c ch p::blkRows ch (c+1) l
def okCut(ch c:Int)(n:Nat)(cs:List (List Int)):Prop:=(0≤ch∧ch≤3)∧(0≤c∧c+n+cs.length≤65536)∧ ∀p ∈ cs,p.all sampleG=true∧p.length≤8
def cutGL:List (List AV)→LSpec:=fun items vs σ k=>match vs,σ with
 |[.one (.ptr 0 1 0 0),.one (.ptr 1 1 0 0)],[.cells [.int .i64 ch,.int .i64 c],.cells [.nil]]=>
  ∃cs,items=cs.map item1∧okCut ch c 0 cs∧cs.length≤1000∧(bif cs.isEmpty then k .normal [.one (.ptr 0 1 0 0),.one (.ptr 1 1 0 0)] [.cells [.int .i64 ch,.int .i64 c],.cells [.nil]]
   else k .normal [.one (.ptr 0 1 0 0),.one (.ptr 1 1 0 0)] [.cells [.int .i64 ch,.int .i64 c],.cells [.own 2 11],.row 24 (.mat .i64 11 (blkRows ch c cs))])
 |[.one (.ptr 0 1 0 0),.one (.ptr 1 1 0 0)],[.cells [.int .i64 ch,.int .i64 c],.cells [.own 2 11],.row 24 (.mat .i64 11 rows)]=>
  ∃cs,items=cs.map item1∧okCut ch c rows.length cs∧rows.length+cs.length≤1000∧
   k .normal [.one (.ptr 0 1 0 0),.one (.ptr 1 1 0 0)] [.cells [.int .i64 ch,.int .i64 c],.cells [.own 2 11],.row 24 (.mat .i64 11 (rows++blkRows ch (c+rows.length) cs))]
 |_,_=>False
def cutE(x:List Int)(ch c:Int):Int:=bif decide ((countN x:Int)≤40) then(bif x.all sampleG&&(withinG ch 0 3&&(withinG c 0 65535&&decide (c+max 0 ((countN x:Int)-1)≤65535))) then 0 else 2) else 8
def cutRows(x:List Int)(ch c:Int):List (List Int):=blkRows ch c (chunkC x (countN x))
def blocksOfS:Spec:=fun args σ K=>match args,σ with
 |[.one (.data (.ints .i64 x)),.agg [.int .i64 ch,.int .i64 c]],[]=>x.length≤1000000∧
  bif cutE x ch c==0 then(bif x.isEmpty then K (.tup [.one .nil,.one (.int .i64 0)]) [] else K (.tup [.one (.own 0 11),.one (.int .i64 0)]) [.row 24 (.mat .i64 11 (cutRows x ch c))])
  else K (.tup [.one .nil,.one (.int .i64 (cutE x ch c))]) []
 |_,_=>False
def cutErrS:Spec:=fun args σ K=>match args,σ with
 |[.one (.data (.ints .i64 x)),.agg [.int .i64 ch,.int .i64 c]],[]=>x.length≤1000000∧K (.one (.int .i64 (cutE x ch c))) []
 |_,_=>False
noncomputable abbrev E128:Env:=envOf Tryz.prog [] [(1,.spec [0,1,2,4] [] chunkL)] 31 3
noncomputable abbrev E95:Env:=envOf Tryz.prog [] [] 9 0
noncomputable abbrev E140:Env:=envOf Tryz.prog [] [] 16 0
noncomputable abbrev E129:Env:=envOf Tryz.prog [(125,floorS)] [] 10 0
noncomputable abbrev E96:Env:=envOf Tryz.prog [(101,ceilS)] [] 6 0
noncomputable abbrev E34:Env:=envOf Tryz.prog [(50,unlessS),(59,eachS),(61,channelS),(49,firstS),(62,counterS),(63,chunkS),(64,sumS)] [(1000009,.range 103 chunkSq [3,8] cutGL)] 69 0
noncomputable abbrev E36:Env:=envOf Tryz.prog [(56,countS),(57,areS),(58,channelS),(19,withinS)] [] 32 0
end Go.Ev
