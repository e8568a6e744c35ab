/-
  Part of the proof that TopTransferMended holds.
-/
import Derived.Test.YtmailpnpjcpodaaGreatDoorT33
set_option linter.unusedVariables false
set_option linter.unusedSimpArgs false
set_option linter.unusedSectionVars false
namespace Go.Ev
open Go Go.Proofs
attribute [local irreducible] evFn evBody evRound
set_option maxRecDepth 20000
theorem lokjn_0:LoopOK Ejn (lb Tryz.f43 0) [0,3,4] [3] jnL:=by
 refine loopOK (.cons okdec .nil) (noInner (by kernel_rfl)) (fun vs σ=>match vs,σ with
  |[.one (.data (.ints .i64 l)),.one (.str _),.one (.int .i64 i)],[]=>l.length-i.toNat
  |_,_=>0) fun vs σ k h=> ?_
 unfold jnL at h
 split at h
 rotate_right
 ·exact h.elim
 ·rename_i l s i
  rw[exjnl0a l s i _]
  obtain⟨⟨h1,h2,h3,h4⟩,h⟩:=h
  by_cases hi:i<(l.length:Int)
  ·have hi':i.toNat<l.length:=by omega
   have hw:IntKind.i64.wrap (i+1)=i+1:=wrap_id (by omega) (by omega)
   have hit:(i+1).toNat=i.toNat+1:=by omega
   have hmu:l.length-(i+1).toNat<l.length-i.toNat:=by omega
   have hx:=h4 (l.getD i.toNat 0) (by rw[getD_of_lt hi'];exact List.getElem_mem hi')
   have hxl:=itoG_len hx
   simp only[Nat.add_zero]
   rw[drop_step 0 hi'] at h
   rw[decide_eq_true hi,decide_eq_true h2,decide_eq_true hi',hw]
   simp only[Bool.and_self,cond_true]
   by_cases hp:i>0
   ·have e:(i==0)=false:=by simpa using(show i≠0 by omega)
    rw[e] at h
    rw[decide_eq_true hp,decide_eq_true (by omega),cond_true,cond_true]
    refine And.intro hx ?_
    rw[decide_eq_true (by simp only[List.length_append,List.length_cons,List.length_nil];omega),cond_true]
    refine⟨⟨⟨h1,by omega,by simp only[List.length_append,List.length_cons,List.length_nil];omega,h4⟩,?_⟩,hmu⟩
    rw[show(i+1==0)=false by simpa using(show i+1≠0 by omega),hit]
    have:s++jnR false (l.getD i.toNat 0::l.drop (i.toNat+1))=s++[32]++itoG (l.getD i.toNat 0)++jnR false (l.drop (i.toNat+1)):=by
     show s++([32]++itoG (l.getD i.toNat 0)++jnR false (l.drop (i.toNat+1)))=_
     simp only[List.append_assoc]
    rw[← this]
    exact h
   ·have h0:i=0:=by omega
    subst h0
    rw[decide_eq_false hp,cond_false]
    refine And.intro hx ?_
    rw[decide_eq_true (by omega),cond_true]
    refine⟨⟨⟨h1,by omega,by simp only[List.length_append];omega,h4⟩,?_⟩,hmu⟩
    rw[show((0:Int)+1==0)=false from rfl,hit]
    have:s++jnR true (l.getD (0:Int).toNat 0::l.drop ((0:Int).toNat+1))=s++itoG (l.getD (0:Int).toNat 0)++jnR false (l.drop ((0:Int).toNat+1)):=by
     show s++([]++itoG (l.getD (0:Int).toNat 0)++jnR false (l.drop ((0:Int).toNat+1)))=_
     simp only[List.append_assoc,List.nil_append]
    rw[← this]
    exact h
  ·rw[decide_eq_false hi,cond_false]
   rw[List.drop_eq_nil_of_le (by omega)] at h
   have:s++jnR (i==0) []=s:=by show s++[]=s;rw[List.append_nil]
   rw[this] at h
   exact h
theorem okjn:SpecOK Tryz.prog 43 jnS:=by
 refine specOK (n:=23) (m:=0) (lps:=[(3,.spec [0,3,4] [3] jnL)]) (.cons okdec .nil) Tryz.func43 (by kernel_rfl) (by kernel_rfl) (theLoops (n:=1) (by kernel_rfl) fun i hi=> ?_) fun args σ K h=> ?_
 ·match i,hi with
  |0,_=>exact loopHyp_of (key:=3) (by kernel_rfl) rfl lokjn_0
 unfold jnS at h
 split at h
 rotate_right
 ·exact h.elim
 rename_i l
 rw[exjn l K]
 obtain⟨⟨h1,h2⟩,h⟩:=h
 exact And.intro ⟨h1,by omega,by omega,h2⟩ h
theorem okfld:SpecOK Tryz.prog 36 fldS:=by
 refine specOKc (n:=41) (m:=1) (lps:=[(3,.unroll 9)]) [] [85] .nil Tryz.func36 (by kernel_rfl) (by kernel_rfl) (theLoops (n:=1) (by kernel_rfl) fun i hi=> ?_) fun args σ K h=> ?_
 ·match i,hi with
  |0,_=>exact loopHyp_none (key:=3) (n:=9) (by kernel_rfl) rfl
 unfold fldS at h
 split at h
 rotate_right
 ·exact h.elim
 rename_i c ch x0 x1 x2 x3 x4 x5 x6 x7 sm
 rw[exfld c ch x0 x1 x2 x3 x4 x5 x6 x7 sm K]
 exact⟨⟨h,h⟩,h⟩
theorem jnR_tail: ∀l:List Int,jnR false l=Lib.joinTail [32] (l.map itoG)
 |[]=>rfl
 |x::r=>by
  show[32]++itoG x++jnR false r=([32]++itoG x)++_
  rw[jnR_tail r];rfl
theorem jnR_join(x:Int)(r:List Int):jnR true (x::r)=fmbG (x::r):=by
 unfold fmbG joinG
 have e:((x::r).map fun x=>[D.str (itoG x)]).map strG=itoG x::r.map itoG:=by
  rw[List.map_map];rfl
 rw[e,Lib.join_cons]
 show[]++itoG x++jnR false r=_
 rw[List.nil_append,jnR_tail]
theorem jnR_len: ∀(f:Bool) (l:List Int),(∀x ∈ l,i64B x)→(jnR f l).length≤22*l.length
 |_,[],_=>by simp[jnR]
 |f,x::r,h=>by
  have h1:=itoG_len (h x (by simp))
  have h2:=jnR_len false r fun y hy=>h y (by simp[hy])
  have h3:(bif f then([]:List UInt8) else[32]).length≤1:=by cases f<;>decide
  show((bif f then[] else[32])++itoG x++jnR false r).length≤_
  rw[List.length_append,List.length_append,List.length_cons]
  omega
theorem okfmb:SpecOK Tryz.prog 7 fmbS:=by
 refine specOKc (n:=28) (m:=0) (lps:=[(4,.unroll 12)]) [] [85] (.cons okfld (.cons okito (.cons okjoin .nil))) Tryz.func7 (by kernel_rfl) (by kernel_rfl) (theLoops (n:=1) (by kernel_rfl) fun i hi=> ?_) fun args σ K h=> ?_
 ·match i,hi with
  |0,_=>exact loopHyp_none (key:=4) (n:=12) (by kernel_rfl) rfl
 unfold fmbS at h
 split at h
 rotate_right
 ·exact h.elim
 rename_i c ch x0 x1 x2 x3 x4 x5 x6 x7 sm
 rw[exfmb c ch x0 x1 x2 x3 x4 x5 x6 x7 sm K]
 obtain⟨h1,h⟩:=h
 have hl:(joinG 32 ([c,ch,x0,x1,x2,x3,x4,x5,x6,x7,sm].map fun x=>[D.str (itoG x)])).length≤140737488355328:=by
  have e:=jnR_join c [ch,x0,x1,x2,x3,x4,x5,x6,x7,sm]
  have h2:=jnR_len true [c,ch,x0,x1,x2,x3,x4,x5,x6,x7,sm] h1
  rw[e] at h2
  have h3:[c,ch,x0,x1,x2,x3,x4,x5,x6,x7,sm].length=11:=rfl
  unfold fmbG at h2
  omega
 exact⟨h1 c (by simp),h1 ch (by simp),h1 x0 (by simp),h1 x1 (by simp),h1 x2 (by simp),h1 x3 (by simp),h1 x4 (by simp),h1 x5 (by simp),h1 x6 (by simp),h1 x7 (by simp),h1 sm (by simp),⟨by simp,by simp,hl⟩,h⟩
theorem chain_step{b:Bool}{l:Prop}{E T:Prop}(hl:l)(hE:b=false→E)(hT:b=true→T):l∧bif !b then E else T:=by
 refine And.intro hl ?_
 cases b with
 |false=>exact hE rfl
 |true=>exact hT rfl
theorem pcs_len(c:UInt8): ∀(s:List UInt8) (p:List UInt8),p ∈ pcs c s→p.length≤s.length
 |[],p,h=>by
  have:p=[]:=by simpa [pcs] using h
  subst this;simp
 |x::s,p,h=>by
  rw[pcs] at h
  rw[List.length_cons]
  split at h
  ·rcases List.mem_cons.1 h with rfl|h
   ·simp
   ·have:=pcs_len c s p h;omega
  ·split at h
   ·rename_i q l hq
    rcases List.mem_cons.1 h with rfl|h
    ·have:=pcs_len c s q (by rw[hq];simp)
     rw[List.length_cons];omega
    ·have:=pcs_len c s p (by rw[hq];simp[h]);omega
   ·have:p=[x]:=by simpa using h
    subst this;simp
theorem pcI_len(s:List UInt8)(i:Nat):(pcI s i).length≤s.length:=by
 unfold pcI
 by_cases h:i<(pcs 32 s).length
 ·rw[getD_of_lt h];exact pcs_len 32 s _ (List.getElem_mem h)
 ·rw[List.getD,List.getElem?_eq_none (by omega)];simp
theorem pbE_no{s:List UInt8}(h:nbA s=false):pbE s=7:=by unfold pbE;rw[h];rfl
theorem pbV_no{s:List UInt8}(h:nbA s=false)(i:Nat):pbV s i=0:=by unfold pbV;rw[pbE_no h];rfl
theorem nbA_len{s:List UInt8}(h:(pcs 32 s).length≠11):nbA s=false:=by
 unfold nbA
 rw[show((pcs 32 s).length==11)=false by simpa using h];rfl
theorem pb_no{s:List UInt8}{K:AV→List Blk→Prop}(h:K (.tup [.agg [.int .i64 (pbV s 0),.int .i64 (pbV s 1),.int .i64 (pbV s 2),.int .i64 (pbV s 3),.int .i64 (pbV s 4),.int .i64 (pbV s 5),.int .i64 (pbV s 6),.int .i64 (pbV s 7),.int .i64 (pbV s 8),.int .i64 (pbV s 9),.int .i64 (pbV s 10)],.one (.int .i64 (pbE s))]) [])(hn:nbA s=false):K (.tup [.agg [.int .i64 0,.int .i64 0,.int .i64 0,.int .i64 0,.int .i64 0,.int .i64 0,.int .i64 0,.int .i64 0,.int .i64 0,.int .i64 0,.int .i64 0],.one (.int .i64 7)]) []:=by
 simp only[pbE_no hn,pbV_no hn] at h
 exact h
theorem pb_yes{s:List UInt8}{K:AV→List Blk→Prop}(h:K (.tup [.agg [.int .i64 (pbV s 0),.int .i64 (pbV s 1),.int .i64 (pbV s 2),.int .i64 (pbV s 3),.int .i64 (pbV s 4),.int .i64 (pbV s 5),.int .i64 (pbV s 6),.int .i64 (pbV s 7),.int .i64 (pbV s 8),.int .i64 (pbV s 9),.int .i64 (pbV s 10)],.one (.int .i64 (pbE s))]) [])(hn:nbA s=true):
  bif blockE (nbV s 0) (nbV s 1) [nbV s 2,nbV s 3,nbV s 4,nbV s 5,nbV s 6,nbV s 7,nbV s 8,nbV s 9] (nbV s 10)!=0 then K (.tup [.agg [.int .i64 0,.int .i64 0,.int .i64 0,.int .i64 0,.int .i64 0,.int .i64 0,.int .i64 0,.int .i64 0,.int .i64 0,.int .i64 0,.int .i64 0],.one (.int .i64 (blockE (nbV s 0) (nbV s 1) [nbV s 2,nbV s 3,nbV s 4,nbV s 5,nbV s 6,nbV s 7,nbV s 8,nbV s 9] (nbV s 10)))]) [] else K (.tup [.agg [.int .i64 (nbV s 0),.int .i64 (nbV s 1),.int .i64 (nbV s 2),.int .i64 (nbV s 3),.int .i64 (nbV s 4),.int .i64 (nbV s 5),.int .i64 (nbV s 6),.int .i64 (nbV s 7),.int .i64 (nbV s 8),.int .i64 (nbV s 9),.int .i64 (nbV s 10)],.one (.int .i64 0)]) []:=by
 have e:pbE s=blockE (nbV s 0) (nbV s 1) [nbV s 2,nbV s 3,nbV s 4,nbV s 5,nbV s 6,nbV s 7,nbV s 8,nbV s 9] (nbV s 10):=by unfold pbE;rw[hn];rfl
 unfold pbV at h
 rw[e] at h
 generalize blockE (nbV s 0) (nbV s 1) [nbV s 2,nbV s 3,nbV s 4,nbV s 5,nbV s 6,nbV s 7,nbV s 8,nbV s 9] (nbV s 10)=q at *
 cases hq:(q==0) with
 |true=>
  rw[hq] at h
  have:q=0:=eq_of_beq hq
  subst this
  exact h
 |false=>
  rw[hq] at h
  rw[show(q != 0)=true by unfold bne;rw[hq];rfl,cond_true]
  exact h
theorem okpab:SpecOK Tryz.prog 8 pabS:=by
 refine specOKc (n:=58) (m:=0) (lps:=[(7,.unroll 12)]) [] [85] (.cons okfld (.cons oksplit (.cons oknmb (.cons ok21 .nil)))) Tryz.func8 (by kernel_rfl) (by kernel_rfl) (theLoops (n:=1) (by kernel_rfl) fun i hi=> ?_) fun args σ K h=> ?_
 ·match i,hi with
  |0,_=>exact loopHyp_none (key:=7) (n:=12) (by kernel_rfl) rfl
 unfold pabS at h
 split at h
 rotate_right
 ·exact h.elim
 rename_i s
 rw[expab s K]
 obtain⟨h1,h⟩:=h
 refine And.intro h1 ?_
 by_cases hL:(pcs 32 s).length=11
 rotate_left
 ·have hne:(((List.map one1 (pcs 32 s)).length:Int)!=((11:Nat):Int))=true:=by
   rw[List.length_map];simp only[bne_iff_ne];omega
  show bif (((List.map one1 (pcs 32 s)).length:Int)!=((11:Nat):Int)) then _ else _
  rw[hne,cond_true]
  exact pb_no h (nbA_len hL)
 have g: ∀i,i<11→(((List.map one1 (pcs 32 s)).getD i []).getD 0 (D.int 0)).toStr=pcI s i:=fun i hi=>one1_at (by omega)
 have hlm:(List.map one1 (pcs 32 s)).length=11:=by rw[List.length_map];exact hL
 rw[hlm]
 rw[g 0 (by decide),g 1 (by decide),g 2 (by decide),g 3 (by decide),g 4 (by decide),g 5 (by decide),g 6 (by decide),g 7 (by decide),g 8 (by decide),g 9 (by decide),g 10 (by decide)]
 show((pcI s 0).length≤1000000∧bif !nmB (pcI s 0) false then K (.tup [.agg [.int .i64 0,.int .i64 0,.int .i64 0,.int .i64 0,.int .i64 0,.int .i64 0,.int .i64 0,.int .i64 0,.int .i64 0,.int .i64 0,.int .i64 0],.one (.int .i64 7)]) [] else((pcI s 1).length≤1000000∧bif !nmB (pcI s 1) false then K (.tup [.agg [.int .i64 0,.int .i64 0,.int .i64 0,.int .i64 0,.int .i64 0,.int .i64 0,.int .i64 0,.int .i64 0,.int .i64 0,.int .i64 0,.int .i64 0],.one (.int .i64 7)]) [] else((pcI s 2).length≤1000000∧bif !nmB (pcI s 2) true then K (.tup [.agg [.int .i64 0,.int .i64 0,.int .i64 0,.int .i64 0,.int .i64 0,.int .i64 0,.int .i64 0,.int .i64 0,.int .i64 0,.int .i64 0,.int .i64 0],.one (.int .i64 7)]) [] else((pcI s 3).length≤1000000∧bif !nmB (pcI s 3) true then K (.tup [.agg [.int .i64 0,.int .i64 0,.int .i64 0,.int .i64 0,.int .i64 0,.int .i64 0,.int .i64 0,.int .i64 0,.int .i64 0,.int .i64 0,.int .i64 0],.one (.int .i64 7)]) [] else((pcI s 4).length≤1000000∧bif !nmB (pcI s 4) true then K (.tup [.agg [.int .i64 0,.int .i64 0,.int .i64 0,.int .i64 0,.int .i64 0,.int .i64 0,.int .i64 0,.int .i64 0,.int .i64 0,.int .i64 0,.int .i64 0],.one (.int .i64 7)]) [] else((pcI s 5).length≤1000000∧bif !nmB (pcI s 5) true then K (.tup [.agg [.int .i64 0,.int .i64 0,.int .i64 0,.int .i64 0,.int .i64 0,.int .i64 0,.int .i64 0,.int .i64 0,.int .i64 0,.int .i64 0,.int .i64 0],.one (.int .i64 7)]) [] else((pcI s 6).length≤1000000∧bif !nmB (pcI s 6) true then K (.tup [.agg [.int .i64 0,.int .i64 0,.int .i64 0,.int .i64 0,.int .i64 0,.int .i64 0,.int .i64 0,.int .i64 0,.int .i64 0,.int .i64 0,.int .i64 0],.one (.int .i64 7)]) [] else((pcI s 7).length≤1000000∧bif !nmB (pcI s 7) true then K (.tup [.agg [.int .i64 0,.int .i64 0,.int .i64 0,.int .i64 0,.int .i64 0,.int .i64 0,.int .i64 0,.int .i64 0,.int .i64 0,.int .i64 0,.int .i64 0],.one (.int .i64 7)]) [] else((pcI s 8).length≤1000000∧bif !nmB (pcI s 8) true then K (.tup [.agg [.int .i64 0,.int .i64 0,.int .i64 0,.int .i64 0,.int .i64 0,.int .i64 0,.int .i64 0,.int .i64 0,.int .i64 0,.int .i64 0,.int .i64 0],.one (.int .i64 7)]) [] else((pcI s 9).length≤1000000∧bif !nmB (pcI s 9) true then K (.tup [.agg [.int .i64 0,.int .i64 0,.int .i64 0,.int .i64 0,.int .i64 0,.int .i64 0,.int .i64 0,.int .i64 0,.int .i64 0,.int .i64 0,.int .i64 0],.one (.int .i64 7)]) [] else((pcI s 10).length≤1000000∧bif !nmB (pcI s 10) false then K (.tup [.agg [.int .i64 0,.int .i64 0,.int .i64 0,.int .i64 0,.int .i64 0,.int .i64 0,.int .i64 0,.int .i64 0,.int .i64 0,.int .i64 0,.int .i64 0],.one (.int .i64 7)]) [] else bif blockE (atoV (pcI s 0)) (atoV (pcI s 1)) [atoV (pcI s 2),atoV (pcI s 3),atoV (pcI s 4),atoV (pcI s 5),atoV (pcI s 6),atoV (pcI s 7),atoV (pcI s 8),atoV (pcI s 9)] (atoV (pcI s 10))!=0 then K (.tup [.agg [.int .i64 0,.int .i64 0,.int .i64 0,.int .i64 0,.int .i64 0,.int .i64 0,.int .i64 0,.int .i64 0,.int .i64 0,.int .i64 0,.int .i64 0],.one (.int .i64 (blockE (atoV (pcI s 0)) (atoV (pcI s 1)) [atoV (pcI s 2),atoV (pcI s 3),atoV (pcI s 4),atoV (pcI s 5),atoV (pcI s 6),atoV (pcI s 7),atoV (pcI s 8),atoV (pcI s 9)] (atoV (pcI s 10))))]) [] else K (.tup [.agg [.int .i64 (atoV (pcI s 0)),.int .i64 (atoV (pcI s 1)),.int .i64 (atoV (pcI s 2)),.int .i64 (atoV (pcI s 3)),.int .i64 (atoV (pcI s 4)),.int .i64 (atoV (pcI s 5)),.int .i64 (atoV (pcI s 6)),.int .i64 (atoV (pcI s 7)),.int .i64 (atoV (pcI s 8)),.int .i64 (atoV (pcI s 9)),.int .i64 (atoV (pcI s 10))],.one (.int .i64 0)]) [])))))))))))
 have hlen: ∀i,(pcI s i).length≤1000000:=fun i=>Nat.le_trans (pcI_len s i) h1
 have hE:=pb_no h
 have n0:nmB (pcI s 0) false=nbB s 0:=nmB_eq _ _
 refine chain_step (hlen 0) (fun q=>hE (by unfold nbA;rw[← n0,q];simp)) fun q0=> ?_
 have n1:nmB (pcI s 1) false=nbB s 1:=nmB_eq _ _
 refine chain_step (hlen 1) (fun q=>hE (by unfold nbA;rw[← n1,q];simp)) fun q1=> ?_
 have n2:nmB (pcI s 2) true=nbB s 2:=nmB_eq _ _
 refine chain_step (hlen 2) (fun q=>hE (by unfold nbA;rw[← n2,q];simp)) fun q2=> ?_
 have n3:nmB (pcI s 3) true=nbB s 3:=nmB_eq _ _
 refine chain_step (hlen 3) (fun q=>hE (by unfold nbA;rw[← n3,q];simp)) fun q3=> ?_
 have n4:nmB (pcI s 4) true=nbB s 4:=nmB_eq _ _
 refine chain_step (hlen 4) (fun q=>hE (by unfold nbA;rw[← n4,q];simp)) fun q4=> ?_
 have n5:nmB (pcI s 5) true=nbB s 5:=nmB_eq _ _
 refine chain_step (hlen 5) (fun q=>hE (by unfold nbA;rw[← n5,q];simp)) fun q5=> ?_
 have n6:nmB (pcI s 6) true=nbB s 6:=nmB_eq _ _
 refine chain_step (hlen 6) (fun q=>hE (by unfold nbA;rw[← n6,q];simp)) fun q6=> ?_
 have n7:nmB (pcI s 7) true=nbB s 7:=nmB_eq _ _
 refine chain_step (hlen 7) (fun q=>hE (by unfold nbA;rw[← n7,q];simp)) fun q7=> ?_
 have n8:nmB (pcI s 8) true=nbB s 8:=nmB_eq _ _
 refine chain_step (hlen 8) (fun q=>hE (by unfold nbA;rw[← n8,q];simp)) fun q8=> ?_
 have n9:nmB (pcI s 9) true=nbB s 9:=nmB_eq _ _
 refine chain_step (hlen 9) (fun q=>hE (by unfold nbA;rw[← n9,q];simp)) fun q9=> ?_
 have n10:nmB (pcI s 10) false=nbB s 10:=nmB_eq _ _
 refine chain_step (hlen 10) (fun q=>hE (by unfold nbA;rw[← n10,q];simp)) fun q10=> ?_
 have hall:nbA s=true:=by
  unfold nbA
  rw[hL,← n0,q0,← n1,q1,← n2,q2,← n3,q3,← n4,q4,← n5,q5,← n6,q6,← n7,q7,← n8,q8,← n9,q9,← n10,q10];rfl
 have v0:atoV (pcI s 0)=nbV s 0:=(nmB_val q0).2.1
 have v1:atoV (pcI s 1)=nbV s 1:=(nmB_val q1).2.1
 have v2:atoV (pcI s 2)=nbV s 2:=(nmB_val q2).2.1
 have v3:atoV (pcI s 3)=nbV s 3:=(nmB_val q3).2.1
 have v4:atoV (pcI s 4)=nbV s 4:=(nmB_val q4).2.1
 have v5:atoV (pcI s 5)=nbV s 5:=(nmB_val q5).2.1
 have v6:atoV (pcI s 6)=nbV s 6:=(nmB_val q6).2.1
 have v7:atoV (pcI s 7)=nbV s 7:=(nmB_val q7).2.1
 have v8:atoV (pcI s 8)=nbV s 8:=(nmB_val q8).2.1
 have v9:atoV (pcI s 9)=nbV s 9:=(nmB_val q9).2.1
 have v10:atoV (pcI s 10)=nbV s 10:=(nmB_val q10).2.1
 rw[v0,v1,v2,v3,v4,v5,v6,v7,v8,v9,v10]
 exact pb_yes h hall
end Go.Ev
namespace Go.Ev
open Go Go.Proofs
set_option maxRecDepth 20000
def boRows(x:List Int)(ch c:Int):List (List Int):=bif cutE x ch c==0 then cutRows x ch c else[]
def boDS:Spec:=fun args σ K=>match args,σ with
 |[.one (.data (.ints .i64 x)),.agg [.int .i64 ch,.int .i64 c]],[]=>x.length≤1000000∧K (.tup [.one (.data (.mat .i64 11 (boRows x ch c))),.one (.int .i64 (cutE x ch c))]) []
 |_,_=>False
def resE(D P:List (List Int))(L Q:List Int):Int:= bif groE D P L Q==0 then(bif decide ((keptJ Q 0 P.length).length<L.length) then 28 else bif L.all (rowOk (resF D P L (keptJ Q 0 P.length) 8 0 D))&&(keptJ Q 0 P.length).all (parOk (resF D P L (keptJ Q 0 P.length) 8 0 D) P) then 0 else 13) else groE D P L Q
def resV(D P:List (List Int))(L Q:List Int):List (List Int):=bif resE D P L Q==0 then resF D P L (keptJ Q 0 P.length) 8 0 D else[]
def rdDS:Spec:=fun args σ K=>match args,σ with
 |[.agg [.data (.mat .i64 8 D),.data (.mat .i64 8 P),.data (.ints .i64 L),.data (.ints .i64 Q)]],[]=>okG D P L Q∧K (.tup [.one (.data (.mat .i64 8 (resV D P L Q))),.one (.int .i64 (resE D P L Q))]) []
 |_,_=>False
def parV(X:List (List Int))(c:Int):List (List Int):=bif dataE X c==0 then parM X c else[]
def parDS:Spec:=fun args σ K=>match args,σ with
 |[.one (.data (.mat .i64 8 X)),.one (.int .i64 c)],[]=>(X.length≤1000000000∧X.all len8=true)∧K (.tup [.one (.data (.mat .i64 8 (parV X c))),.one (.int .i64 (dataE X c))]) []
 |_,_=>False
theorem okboD:SpecOK Tryz.prog 20 boDS:=by
 refine ok34.froze fun args σ K h=> ?_
 unfold boDS at h
 split at h
 rotate_right
 ·exact h.elim
 rename_i x ch c
 obtain⟨h1,h⟩:=h
 refine⟨rfl,h1,?_⟩
 unfold boRows at h
 cases h0:cutE x ch c==0 with
 |false=>
  rw[h0] at h
  rw[cond_false]
  exact⟨.tup [.one (.data (.mat .i64 11 [])),.one (.int .i64 (cutE x ch c))],⟨.inr ⟨.mat .i64 11 [],rfl,rfl⟩,rfl,trivial⟩,h⟩
 |true=>
  rw[h0,cond_true] at h
  rw[cond_true]
  have e0:=beq_iff_eq.1 h0
  rw[e0] at h
  cases x with
  |nil=>exact⟨.tup [.one (.data (.mat .i64 11 [])),.one (.int .i64 0)],⟨.inr ⟨.mat .i64 11 [],rfl,rfl⟩,rfl,trivial⟩,h⟩
  |cons y x=>exact⟨.tup [.one (.data (.mat .i64 11 (cutRows (y::x) ch c))),.one (.int .i64 0)],⟨⟨_,_,rfl,rfl,rfl⟩,rfl,trivial⟩,h⟩
theorem okrdD:SpecOK Tryz.prog 30 rdDS:=by
 refine okrd.froze fun args σ K h=> ?_
 unfold rdDS at h
 split at h
 rotate_right
 ·exact h.elim
 rename_i D P L Q
 obtain⟨hg,h⟩:=h
 refine⟨rfl,hg,?_⟩
 unfold rdK
 cases h1:(groE D P L Q==0) with
 |false=>
  have e:resE D P L Q=groE D P L Q:=by unfold resE;rw[h1];rfl
  have ev:resV D P L Q=[]:=by unfold resV;rw[e,h1];rfl
  rw[e,ev] at h
  exact⟨_,(show frzA [] (.tup [.one .nil,.one (.int .i64 _)]) (.tup [.one (.data (.mat .i64 8 [])),.one (.int .i64 _)]) from⟨.inr ⟨_,rfl,rfl⟩,frzS_int (σ:=[]) _ _,trivial⟩),h⟩
 |true=>
  cases h2:decide ((keptJ Q 0 P.length).length<L.length) with
  |true=>
   have e:resE D P L Q=28:=by unfold resE;rw[h1,h2];rfl
   have ev:resV D P L Q=[]:=by unfold resV;rw[e];rfl
   rw[e,ev] at h
   exact⟨_,(show frzA [] (.tup [.one .nil,.one (.int .i64 _)]) (.tup [.one (.data (.mat .i64 8 [])),.one (.int .i64 _)]) from⟨.inr ⟨_,rfl,rfl⟩,frzS_int (σ:=[]) _ _,trivial⟩),h⟩
  |false=>
   cases h3:(L.all (rowOk (resF D P L (keptJ Q 0 P.length) 8 0 D))&&(keptJ Q 0 P.length).all (parOk (resF D P L (keptJ Q 0 P.length) 8 0 D) P)) with
   |true=>
    have e:resE D P L Q=0:=by unfold resE;rw[h1,h2,h3];rfl
    have ev:resV D P L Q=resF D P L (keptJ Q 0 P.length) 8 0 D:=by unfold resV;rw[e];rfl
    rw[e,ev] at h
    exact⟨_,(show frzA [.row 22 (.mat .i64 8 (resF D P L (keptJ Q 0 P.length) 8 0 D))] (.tup [.one (.own 0 8),.one (.int .i64 _)]) (.tup [.one (.data (.mat .i64 8 _)),.one (.int .i64 _)]) from⟨⟨_,_,rfl,rfl,rfl⟩,rfl,trivial⟩),h⟩
   |false=>
    have e:resE D P L Q=13:=by unfold resE;rw[h1,h2,h3];rfl
    have ev:resV D P L Q=[]:=by unfold resV;rw[e];rfl
    rw[e,ev] at h
    exact⟨_,(show frzA [] (.tup [.one .nil,.one (.int .i64 _)]) (.tup [.one (.data (.mat .i64 8 [])),.one (.int .i64 _)]) from⟨.inr ⟨_,rfl,rfl⟩,frzS_int (σ:=[]) _ _,trivial⟩),h⟩
theorem okparD:SpecOK Tryz.prog 25 parDS:=by
 refine ok40.froze fun args σ K h=> ?_
 unfold parDS at h
 split at h
 rotate_right
 ·exact h.elim
 rename_i X c
 obtain⟨hg,h⟩:=h
 refine⟨rfl,hg,?_⟩
 cases h1:(dataE X c==0) with
 |false=>
  have ev:parV X c=[]:=by unfold parV;rw[h1];rfl
  rw[ev] at h
  exact⟨_,(show frzA [] (.tup [.one .nil,.one (.int .i64 _)]) (.tup [.one (.data (.mat .i64 8 [])),.one (.int .i64 _)]) from⟨.inr ⟨_,rfl,rfl⟩,frzS_int (σ:=[]) _ _,trivial⟩),h⟩
 |true=>
  have e0:dataE X c=0:=eq_of_beq h1
  have ev:parV X c=parM X c:=by unfold parV;rw[h1];rfl
  rw[ev,e0] at h
  exact⟨_,(show frzA [.row 22 (.mat .i64 8 (parM X c))] (.tup [.one (.own 0 8),.one (.int .i64 _)]) (.tup [.one (.data (.mat .i64 8 _)),.one (.int .i64 _)]) from⟨⟨_,_,rfl,rfl,rfl⟩,rfl,trivial⟩),h⟩
end Go.Ev
namespace Go.Ev
open Go Go.Proofs
set_option maxRecDepth 20000
def goodX(b:List Int):Bool:=blockE (b.getD 0 0) (b.getD 1 0) (samX b) (b.getD 10 0)==0
def strsG(l:List (List Int)):List (List D):=l.map fun b=>[.str (fmbG b)]
def okTm(l:List (List Int))(n:Int):Prop:=(l.length:Int)=n∧1≤l.length∧l.length≤12∧l.all len11=true∧l.all goodX=true
def bitB(x i:Int):Bool:=IntKind.i64.wrap (((BitVec.ofInt 64 (x.fdiv ((2:Int)^min i.toNat 64)) &&& BitVec.ofInt 64 (1:Int)).toNat:Nat):Int)==(1:Int)
def lostJ(x:Int):Int→Nat→List Int
 |_,0=>[]
 |i,c+1=>bif bitB x i then i::lostJ x (i+1) c else lostJ x (i+1) c
def lsJ(x:Int):Int→List (List Int)→List Int
 |_,[]=>[]
 |i,_::r=>bif bitB x i then i::lsJ x (i+1) r else lsJ x (i+1) r
def kpJ(x:Int):Int→List (List Int)→List (List Int)
 |_,[]=>[]
 |i,b::r=>bif bitB x i then kpJ x (i+1) r else b::kpJ x (i+1) r
def dtJ(x:Int):Int→List (List Int)→List (List Int)→List (List Int)
 |_,[],D=>D
 |i,b::r,D=>dtJ x (i+1) r (bif bitB x i then D else D.set i.toNat (samX b))
def betw(c:Int)(T:List (List Int))(x:Int):Bool:=decide ((T.length:Int)>0)&&(decide (c+x>(T.getD 0 []).getD 0 0)&&decide (c+x<(T.getD (T.length-1) []).getD 0 0))
def msJ(c:Int)(T:List (List Int)):List Int→List Int
 |[]=>[]
 |x::r=>bif betw c T x then(c+x)::msJ c T r else msJ c T r
def tmA:LSpec:=fun vs σ k=>match vs,σ with
 |[.one (.data (.mat .i64 11 l)),.one (.int .i64 n),.one .nil,.one .nil,.one (.int .i64 i)],[]=>(okTm l n∧i=0)∧k (.exit 0) [.any,.one (.own 0 1),.one (.own 1 8)] [.row 9 (.recs [.str] (strsG l)),.row 22 (.mat .i64 8 (l.map samX))]
 |[.one (.data (.mat .i64 11 l)),.one (.int .i64 n),.one (.own 0 1),.one (.own 1 8),.one (.int .i64 i)],[.row 9 (.recs [.str] S),.row 22 (.mat .i64 8 X)]=>(okTm l n∧0≤i∧i≤n∧S.length=i.toNat∧X.length=i.toNat)∧k (.exit 0) [.any,.one (.own 0 1),.one (.own 1 8)] [.row 9 (.recs [.str] (S++strsG (l.drop i.toNat))),.row 22 (.mat .i64 8 (X++(l.drop i.toNat).map samX))]
 |_,_=>False
def tmBo(k:Ex→List AV→List Blk→Prop)(n:Int)(x:List Int)(ch c cnt lost par:Int)(D P T:List (List Int))(L:List Int):Prop:= bif T.isEmpty then k (.exit 2) [.one (.ptr 0 1 0 0),.any,.one (.int .i64 n),.one (.ptr 1 1 0 0),.one .nil,.one .nil] [.cells [.data (.ints .i64 x),.int .i64 ch,.int .i64 c,.int .i64 cnt,.int .i64 lost,.int .i64 par],.cells [.own 2 8,.own 3 8,.own 4 1,.nil],.row 22 (.mat .i64 8 D),.row 22 (.mat .i64 8 P),.row 3 (.ints .i64 L)] else bif L.isEmpty then k (.exit 2) [.one (.ptr 0 1 0 0),.any,.one (.int .i64 n),.one (.ptr 1 1 0 0),.one (.own 4 11),.one .nil] [.cells [.data (.ints .i64 x),.int .i64 ch,.int .i64 c,.int .i64 cnt,.int .i64 lost,.int .i64 par],.cells [.own 2 8,.own 3 8,.nil,.nil],.row 22 (.mat .i64 8 D),.row 22 (.mat .i64 8 P),.row 24 (.mat .i64 11 T)] else k (.exit 2) [.one (.ptr 0 1 0 0),.any,.one (.int .i64 n),.one (.ptr 1 1 0 0),.one (.own 5 11),.one .nil] [.cells [.data (.ints .i64 x),.int .i64 ch,.int .i64 c,.int .i64 cnt,.int .i64 lost,.int .i64 par],.cells [.own 2 8,.own 3 8,.own 4 1,.nil],.row 22 (.mat .i64 8 D),.row 22 (.mat .i64 8 P),.row 3 (.ints .i64 L),.row 24 (.mat .i64 11 T)]
def tmB:LSpec:=fun vs σ k=>match vs with
 |[.one (.ptr 0 1 0 0),.one (.data (.mat .i64 11 l)),.one (.int .i64 n),.one (.own 1 1),.one (.ptr 2 1 0 0),.one .nil,.one .nil,.one (.int .i64 i)]=>(match σ with
  |[.cells [.data (.ints .i64 x),.int .i64 ch,.int .i64 c,.int .i64 cnt,.int .i64 lost,.int .i64 par],.row 9 (.recs [.str] S),.cells [.own 3 8,.own 4 8,.nil,.nil],.row 22 (.mat .i64 8 D),.row 22 (.mat .i64 8 P)]=>
   (okTm l n∧0≤i∧i≤n∧S=strsG l∧D.length=l.length∧0≤lost∧lost≤4095∧i=0)∧tmBo k n x ch c cnt lost par (dtJ lost i (l.drop i.toNat) D) P (kpJ lost i (l.drop i.toNat)) (lsJ lost i (l.drop i.toNat))
  |[.cells [.data (.ints .i64 x),.int .i64 ch,.int .i64 c,.int .i64 cnt,.int .i64 lost,.int .i64 par],.row 9 (.recs [.str] S),.cells [.own 3 8,.own 4 8,.own 5 1,.nil],.row 22 (.mat .i64 8 D),.row 22 (.mat .i64 8 P),.row 3 (.ints .i64 L)]=>
   (okTm l n∧0≤i∧i≤n∧S=strsG l∧D.length=l.length∧0≤lost∧lost≤4095∧L.length≤i.toNat∧1≤L.length)∧tmBo k n x ch c cnt lost par (dtJ lost i (l.drop i.toNat) D) P (kpJ lost i (l.drop i.toNat)) (L++lsJ lost i (l.drop i.toNat))
  |_=>False)
 |[.one (.ptr 0 1 0 0),.one (.data (.mat .i64 11 l)),.one (.int .i64 n),.one (.own 1 1),.one (.ptr 2 1 0 0),.one (.own 5 11),.one .nil,.one (.int .i64 i)]=>(match σ with
  |[.cells [.data (.ints .i64 x),.int .i64 ch,.int .i64 c,.int .i64 cnt,.int .i64 lost,.int .i64 par],.row 9 (.recs [.str] S),.cells [.own 3 8,.own 4 8,.nil,.nil],.row 22 (.mat .i64 8 D),.row 22 (.mat .i64 8 P),.row 24 (.mat .i64 11 T)]=>
   (okTm l n∧0≤i∧i≤n∧S=strsG l∧D.length=l.length∧0≤lost∧lost≤4095∧T.length≤i.toNat∧1≤T.length)∧tmBo k n x ch c cnt lost par (dtJ lost i (l.drop i.toNat) D) P (T++kpJ lost i (l.drop i.toNat)) (lsJ lost i (l.drop i.toNat))
  |_=>False)
 |[.one (.ptr 0 1 0 0),.one (.data (.mat .i64 11 l)),.one (.int .i64 n),.one (.own 1 1),.one (.ptr 2 1 0 0),.one (.own 6 11),.one .nil,.one (.int .i64 i)]=>(match σ with
  |[.cells [.data (.ints .i64 x),.int .i64 ch,.int .i64 c,.int .i64 cnt,.int .i64 lost,.int .i64 par],.row 9 (.recs [.str] S),.cells [.own 3 8,.own 4 8,.own 5 1,.nil],.row 22 (.mat .i64 8 D),.row 22 (.mat .i64 8 P),.row 3 (.ints .i64 L),.row 24 (.mat .i64 11 T)]=>
   (okTm l n∧0≤i∧i≤n∧S=strsG l∧D.length=l.length∧0≤lost∧lost≤4095∧T.length≤i.toNat∧1≤T.length∧L.length≤i.toNat∧1≤L.length)∧tmBo k n x ch c cnt lost par (dtJ lost i (l.drop i.toNat) D) P (T++kpJ lost i (l.drop i.toNat)) (L++lsJ lost i (l.drop i.toNat))
  |_=>False)
 |_=>False
def tmC:LSpec:=fun vs σ k=>match vs with
 |[.one (.ptr 0 1 0 0),.one (.int .i64 n),.one (.ptr 1 1 0 0),.one (.own 4 11),.one .nil,.one (.int .i64 j)]=>(match σ with
  |[.cells [.data (.ints .i64 x),.int .i64 ch,.int .i64 c,.int .i64 cnt,.int .i64 lost,.int .i64 par],.cells [.own 2 8,.own 3 8,.nil,.nil],.row 22 (.mat .i64 8 D),.row 22 (.mat .i64 8 P),.row 24 (.mat .i64 11 T)]=>(0≤j∧j≤cnt∧cnt≤4)∧
   bif (lostJ par j (cnt-j).toNat).isEmpty then k (.exit 4) [.one (.ptr 0 1 0 0),.one (.int .i64 n),.one (.ptr 1 1 0 0),.one (.own 4 11),.one .nil] [.cells [.data (.ints .i64 x),.int .i64 ch,.int .i64 c,.int .i64 cnt,.int .i64 lost,.int .i64 par],.cells [.own 2 8,.own 3 8,.nil,.nil],.row 22 (.mat .i64 8 D),.row 22 (.mat .i64 8 P),.row 24 (.mat .i64 11 T)] else k (.exit 4) [.one (.ptr 0 1 0 0),.one (.int .i64 n),.one (.ptr 1 1 0 0),.one (.own 5 11),.one .nil] [.cells [.data (.ints .i64 x),.int .i64 ch,.int .i64 c,.int .i64 cnt,.int .i64 lost,.int .i64 par],.cells [.own 2 8,.own 3 8,.nil,.own 4 1],.row 22 (.mat .i64 8 D),.row 22 (.mat .i64 8 P),.row 3 (.ints .i64 ((lostJ par j (cnt-j).toNat))),.row 24 (.mat .i64 11 T)]
  |_=>False)
 |[.one (.ptr 0 1 0 0),.one (.int .i64 n),.one (.ptr 1 1 0 0),.one (.own 5 11),.one .nil,.one (.int .i64 j)]=>(match σ with
  |[.cells [.data (.ints .i64 x),.int .i64 ch,.int .i64 c,.int .i64 cnt,.int .i64 lost,.int .i64 par],.cells [.own 2 8,.own 3 8,.nil,.own 4 1],.row 22 (.mat .i64 8 D),.row 22 (.mat .i64 8 P),.row 3 (.ints .i64 Q),.row 24 (.mat .i64 11 T)]=>(0≤j∧j≤cnt∧cnt≤4∧Q.length≤j.toNat)∧
   k (.exit 4) [.one (.ptr 0 1 0 0),.one (.int .i64 n),.one (.ptr 1 1 0 0),.one (.own 5 11),.one .nil] [.cells [.data (.ints .i64 x),.int .i64 ch,.int .i64 c,.int .i64 cnt,.int .i64 lost,.int .i64 par],.cells [.own 2 8,.own 3 8,.nil,.own 4 1],.row 22 (.mat .i64 8 D),.row 22 (.mat .i64 8 P),.row 3 (.ints .i64 ((Q++lostJ par j (cnt-j).toNat))),.row 24 (.mat .i64 11 T)]
  |[.cells [.data (.ints .i64 x),.int .i64 ch,.int .i64 c,.int .i64 cnt,.int .i64 lost,.int .i64 par],.cells [.own 2 8,.own 3 8,.own 4 1,.nil],.row 22 (.mat .i64 8 D),.row 22 (.mat .i64 8 P),.row 3 (.ints .i64 L),.row 24 (.mat .i64 11 T)]=>(0≤j∧j≤cnt∧cnt≤4)∧
   bif (lostJ par j (cnt-j).toNat).isEmpty then k (.exit 4) [.one (.ptr 0 1 0 0),.one (.int .i64 n),.one (.ptr 1 1 0 0),.one (.own 5 11),.one .nil] [.cells [.data (.ints .i64 x),.int .i64 ch,.int .i64 c,.int .i64 cnt,.int .i64 lost,.int .i64 par],.cells [.own 2 8,.own 3 8,.own 4 1,.nil],.row 22 (.mat .i64 8 D),.row 22 (.mat .i64 8 P),.row 3 (.ints .i64 L),.row 24 (.mat .i64 11 T)] else k (.exit 4) [.one (.ptr 0 1 0 0),.one (.int .i64 n),.one (.ptr 1 1 0 0),.one (.own 6 11),.one .nil] [.cells [.data (.ints .i64 x),.int .i64 ch,.int .i64 c,.int .i64 cnt,.int .i64 lost,.int .i64 par],.cells [.own 2 8,.own 3 8,.own 4 1,.own 5 1],.row 22 (.mat .i64 8 D),.row 22 (.mat .i64 8 P),.row 3 (.ints .i64 L),.row 3 (.ints .i64 ((lostJ par j (cnt-j).toNat))),.row 24 (.mat .i64 11 T)]
  |_=>False)
 |[.one (.ptr 0 1 0 0),.one (.int .i64 n),.one (.ptr 1 1 0 0),.one .nil,.one .nil,.one (.int .i64 j)]=>(match σ with
  |[.cells [.data (.ints .i64 x),.int .i64 ch,.int .i64 c,.int .i64 cnt,.int .i64 lost,.int .i64 par],.cells [.own 2 8,.own 3 8,.own 4 1,.nil],.row 22 (.mat .i64 8 D),.row 22 (.mat .i64 8 P),.row 3 (.ints .i64 L)]=>(0≤j∧j≤cnt∧cnt≤4)∧
   bif (lostJ par j (cnt-j).toNat).isEmpty then k (.exit 4) [.one (.ptr 0 1 0 0),.one (.int .i64 n),.one (.ptr 1 1 0 0),.one .nil,.one .nil] [.cells [.data (.ints .i64 x),.int .i64 ch,.int .i64 c,.int .i64 cnt,.int .i64 lost,.int .i64 par],.cells [.own 2 8,.own 3 8,.own 4 1,.nil],.row 22 (.mat .i64 8 D),.row 22 (.mat .i64 8 P),.row 3 (.ints .i64 L)] else k (.exit 4) [.one (.ptr 0 1 0 0),.one (.int .i64 n),.one (.ptr 1 1 0 0),.one .nil,.one .nil] [.cells [.data (.ints .i64 x),.int .i64 ch,.int .i64 c,.int .i64 cnt,.int .i64 lost,.int .i64 par],.cells [.own 2 8,.own 3 8,.own 4 1,.own 5 1],.row 22 (.mat .i64 8 D),.row 22 (.mat .i64 8 P),.row 3 (.ints .i64 L),.row 3 (.ints .i64 ((lostJ par j (cnt-j).toNat)))]
  |[.cells [.data (.ints .i64 x),.int .i64 ch,.int .i64 c,.int .i64 cnt,.int .i64 lost,.int .i64 par],.cells [.own 2 8,.own 3 8,.own 4 1,.own 5 1],.row 22 (.mat .i64 8 D),.row 22 (.mat .i64 8 P),.row 3 (.ints .i64 L),.row 3 (.ints .i64 Q)]=>(0≤j∧j≤cnt∧cnt≤4∧Q.length≤j.toNat)∧
   k (.exit 4) [.one (.ptr 0 1 0 0),.one (.int .i64 n),.one (.ptr 1 1 0 0),.one .nil,.one .nil] [.cells [.data (.ints .i64 x),.int .i64 ch,.int .i64 c,.int .i64 cnt,.int .i64 lost,.int .i64 par],.cells [.own 2 8,.own 3 8,.own 4 1,.own 5 1],.row 22 (.mat .i64 8 D),.row 22 (.mat .i64 8 P),.row 3 (.ints .i64 L),.row 3 (.ints .i64 ((Q++lostJ par j (cnt-j).toNat)))]
  |_=>False)
 |[.one (.ptr 0 1 0 0),.one (.int .i64 n),.one (.ptr 1 1 0 0),.one (.own 6 11),.one .nil,.one (.int .i64 j)]=>(match σ with
  |[.cells [.data (.ints .i64 x),.int .i64 ch,.int .i64 c,.int .i64 cnt,.int .i64 lost,.int .i64 par],.cells [.own 2 8,.own 3 8,.own 4 1,.own 5 1],.row 22 (.mat .i64 8 D),.row 22 (.mat .i64 8 P),.row 3 (.ints .i64 L),.row 3 (.ints .i64 Q),.row 24 (.mat .i64 11 T)]=>(0≤j∧j≤cnt∧cnt≤4∧Q.length≤j.toNat)∧
   k (.exit 4) [.one (.ptr 0 1 0 0),.one (.int .i64 n),.one (.ptr 1 1 0 0),.one (.own 6 11),.one .nil] [.cells [.data (.ints .i64 x),.int .i64 ch,.int .i64 c,.int .i64 cnt,.int .i64 lost,.int .i64 par],.cells [.own 2 8,.own 3 8,.own 4 1,.own 5 1],.row 22 (.mat .i64 8 D),.row 22 (.mat .i64 8 P),.row 3 (.ints .i64 L),.row 3 (.ints .i64 ((Q++lostJ par j (cnt-j).toNat))),.row 24 (.mat .i64 11 T)]
  |_=>False)
 |_=>False
def tmD:LSpec:=fun vs σ k=>match vs with
 |[.one (.ptr 0 1 0 0),.one (.int .i64 n),.one (.ptr 1 1 0 0),.one (.own 4 11),.one .nil,.one (.int .i64 h)]=>(match σ with
  |[.cells [.data (.ints .i64 x),.int .i64 ch,.int .i64 c,.int .i64 cnt,.int .i64 lost,.int .i64 par],.cells [.own 2 8,.own 3 8,.nil,.nil],.row 22 (.mat .i64 8 D),.row 22 (.mat .i64 8 P),.row 24 (.mat .i64 11 T)]=>(0≤h∧1≤T.length∧T.length≤12)∧
   k (.exit 6) [.one (.ptr 0 1 0 0),.one (.int .i64 n),.one (.ptr 1 1 0 0),.one (.own 4 11),.one .nil] [.cells [.data (.ints .i64 x),.int .i64 ch,.int .i64 c,.int .i64 cnt,.int .i64 lost,.int .i64 par],.cells [.own 2 8,.own 3 8,.nil,.nil],.row 22 (.mat .i64 8 D),.row 22 (.mat .i64 8 P),.row 24 (.mat .i64 11 T)]
  |_=>False)
 |[.one (.ptr 0 1 0 0),.one (.int .i64 n),.one (.ptr 1 1 0 0),.one (.own 5 11),.one .nil,.one (.int .i64 h)]=>(match σ with
  |[.cells [.data (.ints .i64 x),.int .i64 ch,.int .i64 c,.int .i64 cnt,.int .i64 lost,.int .i64 par],.cells [.own 2 8,.own 3 8,.nil,.own 4 1],.row 22 (.mat .i64 8 D),.row 22 (.mat .i64 8 P),.row 3 (.ints .i64 Q),.row 24 (.mat .i64 11 T)]=>(0≤h∧1≤T.length∧T.length≤12)∧
   k (.exit 6) [.one (.ptr 0 1 0 0),.one (.int .i64 n),.one (.ptr 1 1 0 0),.one (.own 5 11),.one .nil] [.cells [.data (.ints .i64 x),.int .i64 ch,.int .i64 c,.int .i64 cnt,.int .i64 lost,.int .i64 par],.cells [.own 2 8,.own 3 8,.nil,.own 4 1],.row 22 (.mat .i64 8 D),.row 22 (.mat .i64 8 P),.row 3 (.ints .i64 Q),.row 24 (.mat .i64 11 T)]
  |[.cells [.data (.ints .i64 x),.int .i64 ch,.int .i64 c,.int .i64 cnt,.int .i64 lost,.int .i64 par],.cells [.own 2 8,.own 3 8,.own 4 1,.nil],.row 22 (.mat .i64 8 D),.row 22 (.mat .i64 8 P),.row 3 (.ints .i64 L),.row 24 (.mat .i64 11 T)]=>(0≤h∧h≤L.length∧L.length≤12∧(∀y ∈ L,0≤y∧y≤12)∧0≤c∧c≤65535∧1≤T.length∧T.length≤12)∧
   bif (msJ c T (L.drop h.toNat)).isEmpty then k (.exit 6) [.one (.ptr 0 1 0 0),.one (.int .i64 n),.one (.ptr 1 1 0 0),.one (.own 5 11),.one .nil] [.cells [.data (.ints .i64 x),.int .i64 ch,.int .i64 c,.int .i64 cnt,.int .i64 lost,.int .i64 par],.cells [.own 2 8,.own 3 8,.own 4 1,.nil],.row 22 (.mat .i64 8 D),.row 22 (.mat .i64 8 P),.row 3 (.ints .i64 L),.row 24 (.mat .i64 11 T)] else k (.exit 6) [.one (.ptr 0 1 0 0),.one (.int .i64 n),.one (.ptr 1 1 0 0),.one (.own 5 11),.one (.own 6 1)] [.cells [.data (.ints .i64 x),.int .i64 ch,.int .i64 c,.int .i64 cnt,.int .i64 lost,.int .i64 par],.cells [.own 2 8,.own 3 8,.own 4 1,.nil],.row 22 (.mat .i64 8 D),.row 22 (.mat .i64 8 P),.row 3 (.ints .i64 L),.row 24 (.mat .i64 11 T),.row 3 (.ints .i64 ((msJ c T (L.drop h.toNat))))]
  |_=>False)
 |[.one (.ptr 0 1 0 0),.one (.int .i64 n),.one (.ptr 1 1 0 0),.one .nil,.one .nil,.one (.int .i64 h)]=>(match σ with
  |[.cells [.data (.ints .i64 x),.int .i64 ch,.int .i64 c,.int .i64 cnt,.int .i64 lost,.int .i64 par],.cells [.own 2 8,.own 3 8,.own 4 1,.nil],.row 22 (.mat .i64 8 D),.row 22 (.mat .i64 8 P),.row 3 (.ints .i64 L)]=>(0≤h∧h≤L.length∧L.length≤12∧(∀y ∈ L,0≤y∧y≤12)∧0≤c∧c≤65535)∧
   k (.exit 6) [.one (.ptr 0 1 0 0),.one (.int .i64 n),.one (.ptr 1 1 0 0),.one .nil,.one .nil] [.cells [.data (.ints .i64 x),.int .i64 ch,.int .i64 c,.int .i64 cnt,.int .i64 lost,.int .i64 par],.cells [.own 2 8,.own 3 8,.own 4 1,.nil],.row 22 (.mat .i64 8 D),.row 22 (.mat .i64 8 P),.row 3 (.ints .i64 L)]
  |[.cells [.data (.ints .i64 x),.int .i64 ch,.int .i64 c,.int .i64 cnt,.int .i64 lost,.int .i64 par],.cells [.own 2 8,.own 3 8,.own 4 1,.own 5 1],.row 22 (.mat .i64 8 D),.row 22 (.mat .i64 8 P),.row 3 (.ints .i64 L),.row 3 (.ints .i64 Q)]=>(0≤h∧h≤L.length∧L.length≤12∧(∀y ∈ L,0≤y∧y≤12)∧0≤c∧c≤65535)∧
   k (.exit 6) [.one (.ptr 0 1 0 0),.one (.int .i64 n),.one (.ptr 1 1 0 0),.one .nil,.one .nil] [.cells [.data (.ints .i64 x),.int .i64 ch,.int .i64 c,.int .i64 cnt,.int .i64 lost,.int .i64 par],.cells [.own 2 8,.own 3 8,.own 4 1,.own 5 1],.row 22 (.mat .i64 8 D),.row 22 (.mat .i64 8 P),.row 3 (.ints .i64 L),.row 3 (.ints .i64 Q)]
  |_=>False)
 |[.one (.ptr 0 1 0 0),.one (.int .i64 n),.one (.ptr 1 1 0 0),.one (.own 5 11),.one (.own 6 1),.one (.int .i64 h)]=>(match σ with
  |[.cells [.data (.ints .i64 x),.int .i64 ch,.int .i64 c,.int .i64 cnt,.int .i64 lost,.int .i64 par],.cells [.own 2 8,.own 3 8,.own 4 1,.nil],.row 22 (.mat .i64 8 D),.row 22 (.mat .i64 8 P),.row 3 (.ints .i64 L),.row 24 (.mat .i64 11 T),.row 3 (.ints .i64 M)]=>(0≤h∧h≤L.length∧L.length≤12∧(∀y ∈ L,0≤y∧y≤12)∧0≤c∧c≤65535∧1≤T.length∧T.length≤12∧M.length≤h.toNat)∧
   k (.exit 6) [.one (.ptr 0 1 0 0),.one (.int .i64 n),.one (.ptr 1 1 0 0),.one (.own 5 11),.one (.own 6 1)] [.cells [.data (.ints .i64 x),.int .i64 ch,.int .i64 c,.int .i64 cnt,.int .i64 lost,.int .i64 par],.cells [.own 2 8,.own 3 8,.own 4 1,.nil],.row 22 (.mat .i64 8 D),.row 22 (.mat .i64 8 P),.row 3 (.ints .i64 L),.row 24 (.mat .i64 11 T),.row 3 (.ints .i64 ((M++msJ c T (L.drop h.toNat))))]
  |_=>False)
 |[.one (.ptr 0 1 0 0),.one (.int .i64 n),.one (.ptr 1 1 0 0),.one (.own 6 11),.one .nil,.one (.int .i64 h)]=>(match σ with
  |[.cells [.data (.ints .i64 x),.int .i64 ch,.int .i64 c,.int .i64 cnt,.int .i64 lost,.int .i64 par],.cells [.own 2 8,.own 3 8,.own 4 1,.own 5 1],.row 22 (.mat .i64 8 D),.row 22 (.mat .i64 8 P),.row 3 (.ints .i64 L),.row 3 (.ints .i64 Q),.row 24 (.mat .i64 11 T)]=>(0≤h∧h≤L.length∧L.length≤12∧(∀y ∈ L,0≤y∧y≤12)∧0≤c∧c≤65535∧1≤T.length∧T.length≤12)∧
   bif (msJ c T (L.drop h.toNat)).isEmpty then k (.exit 6) [.one (.ptr 0 1 0 0),.one (.int .i64 n),.one (.ptr 1 1 0 0),.one (.own 6 11),.one .nil] [.cells [.data (.ints .i64 x),.int .i64 ch,.int .i64 c,.int .i64 cnt,.int .i64 lost,.int .i64 par],.cells [.own 2 8,.own 3 8,.own 4 1,.own 5 1],.row 22 (.mat .i64 8 D),.row 22 (.mat .i64 8 P),.row 3 (.ints .i64 L),.row 3 (.ints .i64 Q),.row 24 (.mat .i64 11 T)] else k (.exit 6) [.one (.ptr 0 1 0 0),.one (.int .i64 n),.one (.ptr 1 1 0 0),.one (.own 6 11),.one (.own 7 1)] [.cells [.data (.ints .i64 x),.int .i64 ch,.int .i64 c,.int .i64 cnt,.int .i64 lost,.int .i64 par],.cells [.own 2 8,.own 3 8,.own 4 1,.own 5 1],.row 22 (.mat .i64 8 D),.row 22 (.mat .i64 8 P),.row 3 (.ints .i64 L),.row 3 (.ints .i64 Q),.row 24 (.mat .i64 11 T),.row 3 (.ints .i64 ((msJ c T (L.drop h.toNat))))]
  |_=>False)
 |[.one (.ptr 0 1 0 0),.one (.int .i64 n),.one (.ptr 1 1 0 0),.one (.own 6 11),.one (.own 7 1),.one (.int .i64 h)]=>(match σ with
  |[.cells [.data (.ints .i64 x),.int .i64 ch,.int .i64 c,.int .i64 cnt,.int .i64 lost,.int .i64 par],.cells [.own 2 8,.own 3 8,.own 4 1,.own 5 1],.row 22 (.mat .i64 8 D),.row 22 (.mat .i64 8 P),.row 3 (.ints .i64 L),.row 3 (.ints .i64 Q),.row 24 (.mat .i64 11 T),.row 3 (.ints .i64 M)]=>(0≤h∧h≤L.length∧L.length≤12∧(∀y ∈ L,0≤y∧y≤12)∧0≤c∧c≤65535∧1≤T.length∧T.length≤12∧M.length≤h.toNat)∧
   k (.exit 6) [.one (.ptr 0 1 0 0),.one (.int .i64 n),.one (.ptr 1 1 0 0),.one (.own 6 11),.one (.own 7 1)] [.cells [.data (.ints .i64 x),.int .i64 ch,.int .i64 c,.int .i64 cnt,.int .i64 lost,.int .i64 par],.cells [.own 2 8,.own 3 8,.own 4 1,.own 5 1],.row 22 (.mat .i64 8 D),.row 22 (.mat .i64 8 P),.row 3 (.ints .i64 L),.row 3 (.ints .i64 Q),.row 24 (.mat .i64 11 T),.row 3 (.ints .i64 ((M++msJ c T (L.drop h.toNat))))]
  |_=>False)
 |_=>False
def tmE:LSpec:=fun vs σ k=>match vs,σ with
 |[.one (.ptr 0 1 0 0),.one (.data (.mat .i64 8 X)),.one (.int .i64 i)],[.cells [.data (.ints .i64 x),.int .i64 ch,.int .i64 c,.int .i64 cnt,.int .i64 lost,.int .i64 par]]=>(x.length≤96∧(x.length:Int)≤8*X.length∧X.all len8=true∧0≤i∧i≤x.length∧ ∀j:Nat,j<x.length→(X.getD (j/8) []).getD (j%8) 0=x.getD j 0)∧k (.exit 8) [.any] [.cells [.data (.ints .i64 x),.int .i64 ch,.int .i64 c,.int .i64 cnt,.int .i64 lost,.int .i64 par]]
 |_,_=>False
def menS:Spec:=fun args σ K=>match args,σ with
 |[.agg [.data (.ints .i64 x),.int .i64 ch,.int .i64 c,.int .i64 cnt,.int .i64 lost,.int .i64 par]],[]=>K (.one (.bool true)) []
 |_,_=>False
def tawS:Spec:=fun args σ K=>match args,σ with
 |[],[]=>K (.one (.bool true)) []
 |_,_=>False
noncomputable abbrev Etaw:Env:=envOf Tryz.prog [(22,packedVS),(33,inverseOfS)] [] 29 0
noncomputable abbrev Emen:Env:=envOf Tryz.prog [(17,tawS),(18,cutErrS),(19,withinS),(21,copyIntsS),(20,boDS),(22,packedVS),(23,unpackVS),(24,blockS),(7,fmbS),(26,copyDataS),(25,parDS),(8,pabS),(28,copyBS),(27,misDS),(29,intsS),(31,cgrS),(30,rdDS)] [(12,.frm 0 [3,5,6,7,8] [2,6,7] tmA),(27,.spec [1,3,5,6,15,16,17,18] [1,2,5,15,16,17] tmB),(37,.spec [1,5,15,16,17,21] [1,5,15,16,17] tmC),(42,.spec [1,5,15,16,17,22] [1,5,15,16,17] tmD),(57,.frm 1 [1,26,28] [2] tmE)] 355 0 [20,25,27,30]
noncomputable abbrev EmenF0:Env:=envOf Tryz.prog [(17,tawS),(18,cutErrS),(19,withinS),(21,copyIntsS),(20,boDS),(22,packedVS),(23,unpackVS),(24,blockS),(7,fmbS),(26,copyDataS),(25,parDS),(8,pabS),(28,copyBS),(27,misDS),(29,intsS),(31,cgrS),(30,rdDS)] [(12,.frm 0 [3,5,6,7,8] [2,6,7] tmA),(27,.spec [1,3,5,6,15,16,17,18] [1,2,5,15,16,17] tmB),(37,.spec [1,5,15,16,17,21] [1,5,15,16,17] tmC),(42,.spec [1,5,15,16,17,22] [1,5,15,16,17] tmD),(57,.frm 1 [1,26,28] [2] tmE)] 355 0 [20,25,27,30]
noncomputable abbrev EmenF1:Env:=envOf Tryz.prog [(17,tawS),(18,cutErrS),(19,withinS),(21,copyIntsS),(20,boDS),(22,packedVS),(23,unpackVS),(24,blockS),(7,fmbS),(26,copyDataS),(25,parDS),(8,pabS),(28,copyBS),(27,misDS),(29,intsS),(31,cgrS),(30,rdDS)] [(12,.frm 0 [3,5,6,7,8] [2,6,7] tmA),(27,.spec [1,3,5,6,15,16,17,18] [1,2,5,15,16,17] tmB),(37,.spec [1,5,15,16,17,21] [1,5,15,16,17] tmC),(42,.spec [1,5,15,16,17,22] [1,5,15,16,17] tmD),(57,.frm 1 [1,26,28] [2] tmE)] 355 1 [20,25,27,30]
end Go.Ev
