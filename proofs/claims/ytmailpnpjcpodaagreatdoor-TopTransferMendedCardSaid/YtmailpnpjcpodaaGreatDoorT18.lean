/-
  Part of the proof that TopTransferMended holds.
-/
import Derived.Test.YtmailpnpjcpodaaGreatDoorT17
set_option linter.unusedVariables false
set_option linter.unusedSimpArgs false
set_option linter.unusedSectionVars false
namespace Go.Ev
open Go Go.Proofs
set_option maxRecDepth 100000
theorem ex28(x0 x1 x2 x3 x4 x5 x6 x7:Int)(K:AV→List Blk→Prop):evFn E28 Tryz.f22 [.agg [.int .i64 x0,.int .i64 x1,.int .i64 x2,.int .i64 x3,.int .i64 x4,.int .i64 x5,.int .i64 x6,.int .i64 x7]] [] K=(bif (bif [x0,x1,x2,x3,x4,x5,x6,x7].all sampleG then(0:Int) else(2:Int))!=0 then K (AV.tup [.one .nil,.one (.int .i64 (bif [x0,x1,x2,x3,x4,x5,x6,x7].all sampleG then(0:Int) else(2:Int)))]) [] else([x0,x1,x2,x3,x4,x5,x6,x7].all sampleG=true∧(0:Int)≤(0:Int)∧(0:Int)≤(3:Int))∧((0:Int)≤(2:Int)∧(2:Int)≤(100:Int))∧((0:Int)≤(5:Int)∧(5:Int)≤(100:Int)∧(bitsN (bestP [x0,x1,x2,x3,x4,x5,x6,x7] 3 0 (0,0,0)).snd.fst 2).length≤1000000000)∧(0≤(bestP [x0,x1,x2,x3,x4,x5,x6,x7] 3 0 (0,0,0)).snd.snd∧(bestP [x0,x1,x2,x3,x4,x5,x6,x7] 3 0 (0,0,0)).snd.snd≤17∧(0:Int)≤(0:Int)∧(0:Int)≤(8:Int)∧(↑(bitsN (bestP [x0,x1,x2,x3,x4,x5,x6,x7] 3 0 (0,0,0)).snd.fst 2++bitsN (bestP [x0,x1,x2,x3,x4,x5,x6,x7] 3 0 (0,0,0)).snd.snd 5).length:Int)≤1000000∧[(codG (bestP [x0,x1,x2,x3,x4,x5,x6,x7] 3 0 (0,0,0)).snd.fst [x0,x1,x2,x3,x4,x5,x6,x7]).getD 0 0,(codG (bestP [x0,x1,x2,x3,x4,x5,x6,x7] 3 0 (0,0,0)).snd.fst [x0,x1,x2,x3,x4,x5,x6,x7]).getD 1 0,(codG (bestP [x0,x1,x2,x3,x4,x5,x6,x7] 3 0 (0,0,0)).snd.fst [x0,x1,x2,x3,x4,x5,x6,x7]).getD 2 0,(codG (bestP [x0,x1,x2,x3,x4,x5,x6,x7] 3 0 (0,0,0)).snd.fst [x0,x1,x2,x3,x4,x5,x6,x7]).getD 3 0,(codG (bestP [x0,x1,x2,x3,x4,x5,x6,x7] 3 0 (0,0,0)).snd.fst [x0,x1,x2,x3,x4,x5,x6,x7]).getD 4 0,(codG (bestP [x0,x1,x2,x3,x4,x5,x6,x7] 3 0 (0,0,0)).snd.fst [x0,x1,x2,x3,x4,x5,x6,x7]).getD 5 0,(codG (bestP [x0,x1,x2,x3,x4,x5,x6,x7] 3 0 (0,0,0)).snd.fst [x0,x1,x2,x3,x4,x5,x6,x7]).getD 6 0,(codG (bestP [x0,x1,x2,x3,x4,x5,x6,x7] 3 0 (0,0,0)).snd.fst [x0,x1,x2,x3,x4,x5,x6,x7]).getD 7 0].all okU=true)∧K (AV.tup [.one (.own 0 1),.one (.int .i64 0)]) [Blk.row 3 (Row.ints .i64 (bitsN (bestP [x0,x1,x2,x3,x4,x5,x6,x7] 3 0 (0,0,0)).snd.fst 2++bitsN (bestP [x0,x1,x2,x3,x4,x5,x6,x7] 3 0 (0,0,0)).snd.snd 5++codesG (bestP [x0,x1,x2,x3,x4,x5,x6,x7] 3 0 (0,0,0)).snd.snd [(codG (bestP [x0,x1,x2,x3,x4,x5,x6,x7] 3 0 (0,0,0)).snd.fst [x0,x1,x2,x3,x4,x5,x6,x7]).getD 0 0,(codG (bestP [x0,x1,x2,x3,x4,x5,x6,x7] 3 0 (0,0,0)).snd.fst [x0,x1,x2,x3,x4,x5,x6,x7]).getD 1 0,(codG (bestP [x0,x1,x2,x3,x4,x5,x6,x7] 3 0 (0,0,0)).snd.fst [x0,x1,x2,x3,x4,x5,x6,x7]).getD 2 0,(codG (bestP [x0,x1,x2,x3,x4,x5,x6,x7] 3 0 (0,0,0)).snd.fst [x0,x1,x2,x3,x4,x5,x6,x7]).getD 3 0,(codG (bestP [x0,x1,x2,x3,x4,x5,x6,x7] 3 0 (0,0,0)).snd.fst [x0,x1,x2,x3,x4,x5,x6,x7]).getD 4 0,(codG (bestP [x0,x1,x2,x3,x4,x5,x6,x7] 3 0 (0,0,0)).snd.fst [x0,x1,x2,x3,x4,x5,x6,x7]).getD 5 0,(codG (bestP [x0,x1,x2,x3,x4,x5,x6,x7] 3 0 (0,0,0)).snd.fst [x0,x1,x2,x3,x4,x5,x6,x7]).getD 6 0,(codG (bestP [x0,x1,x2,x3,x4,x5,x6,x7] 3 0 (0,0,0)).snd.fst [x0,x1,x2,x3,x4,x5,x6,x7]).getD 7 0]))]):=by kernel_rfl
theorem ex28a(x0 x1 x2 x3 x4 x5 x6 x7 b bp bk p:Int)(K:Ex→List AV→List Blk→Prop):evBody E28 (lb Tryz.f22 0) [1,5,6,7,19] [1,6,7] [.one (.ptr 0 1 0 0),.one (.int .i64 b),.one (.int .i64 bp),.one (.int .i64 bk),.one (.int .i64 p)] [.row 22 (.ints .i64 [x0,x1,x2,x3,x4,x5,x6,x7])] K=(bif decide (p<3) then([x0,x1,x2,x3,x4,x5,x6,x7].all sampleG=true∧(0:Int)≤(0:Int)∧(0:Int)≤(18:Int))∧K .normal [.one (.ptr 0 1 0 0),.one (.int .i64 (bestK [x0,x1,x2,x3,x4,x5,x6,x7] p 18 0 (b,bp,bk)).fst),.one (.int .i64 (bestK [x0,x1,x2,x3,x4,x5,x6,x7] p 18 0 (b,bp,bk)).snd.fst),.one (.int .i64 (bestK [x0,x1,x2,x3,x4,x5,x6,x7] p 18 0 (b,bp,bk)).snd.snd),.one (.int .i64 (IntKind.i64.wrap (p+1)))] [Blk.row 22 (Row.ints .i64 [x0,x1,x2,x3,x4,x5,x6,x7])] else K (.exit 0) [.one (.ptr 0 1 0 0),.one (.int .i64 bp),.one (.int .i64 bk)] [Blk.row 22 (Row.ints .i64 [x0,x1,x2,x3,x4,x5,x6,x7])]):=by kernel_rfl
theorem ex28b(x0 x1 x2 x3 x4 x5 x6 x7 b bp bk p q i:Int)(K:Ex→List AV→List Blk→Prop):evBody E28 (lb Tryz.f22 1) [1,5,6,7,8,19,22] [1,5,6,7,19] [.one (.ptr 0 1 0 0),.one (.int .i64 b),.one (.int .i64 bp),.one (.int .i64 bk),.one (.int .i64 p),.one (.int .i64 q),.one (.int .i64 i)] [.row 22 (.ints .i64 [x0,x1,x2,x3,x4,x5,x6,x7])] K=(bif decide (i<18) then([x0,x1,x2,x3,x4,x5,x6,x7].all sampleG=true∧0≤i∧i≤17)∧bif b==0 then K .normal [.one (.ptr 0 1 0 0),.one (.int .i64 (lenG p i [x0,x1,x2,x3,x4,x5,x6,x7])),.one (.int .i64 p),.one (.int .i64 i),.one (.int .i64 p),.one (.int .i64 q),.one (.int .i64 (IntKind.i64.wrap (i+1)))] [Blk.row 22 (Row.ints .i64 [x0,x1,x2,x3,x4,x5,x6,x7])] else bif decide (lenG p i [x0,x1,x2,x3,x4,x5,x6,x7]<b) then K .normal [.one (.ptr 0 1 0 0),.one (.int .i64 (lenG p i [x0,x1,x2,x3,x4,x5,x6,x7])),.one (.int .i64 p),.one (.int .i64 i),.one (.int .i64 p),.one (.int .i64 q),.one (.int .i64 (IntKind.i64.wrap (i+1)))] [Blk.row 22 (Row.ints .i64 [x0,x1,x2,x3,x4,x5,x6,x7])] else K .normal [.one (.ptr 0 1 0 0),.one (.int .i64 b),.one (.int .i64 bp),.one (.int .i64 bk),.one (.int .i64 p),.one (.int .i64 q),.one (.int .i64 (IntKind.i64.wrap (i+1)))] [Blk.row 22 (Row.ints .i64 [x0,x1,x2,x3,x4,x5,x6,x7])] else K (.exit 2) [.one (.ptr 0 1 0 0),.one (.int .i64 b),.one (.int .i64 bp),.one (.int .i64 bk),.one (.int .i64 q)] [Blk.row 22 (Row.ints .i64 [x0,x1,x2,x3,x4,x5,x6,x7])]):=by kernel_rfl
theorem ex28c(c u0 u1 u2 u3 u4 u5 u6 u7 i:Int)(xs:List Int)(K:Ex→List AV→List Blk→Prop):evBody E28 (lb Tryz.f22 2) [7,11,47,48] [11] [.one (.int .i64 c),.one (.ptr 0 1 0 0),.agg [.int .i64 u0,.int .i64 u1,.int .i64 u2,.int .i64 u3,.int .i64 u4,.int .i64 u5,.int .i64 u6,.int .i64 u7],.one (.int .i64 i)] [.cells [.own 1 1],.row 3 (.ints .i64 xs)] K=(bif decide (i<8) then bif decide (0≤i)&&decide (i<8) then bif !decide (c<0) then(0≤([u0,u1,u2,u3,u4,u5,u6,u7].getD i.toNat (0:Int)).fdiv (2^min c.toNat 64)∧([u0,u1,u2,u3,u4,u5,u6,u7].getD i.toNat (0:Int)).fdiv (2^min c.toNat 64)≤1000000000)∧bif decide ((xs++List.replicate (([u0,u1,u2,u3,u4,u5,u6,u7].getD i.toNat (0:Int)).fdiv (2^min c.toNat 64)).toNat (1:Int)).length*8≤140737488355328∧(xs++List.replicate (([u0,u1,u2,u3,u4,u5,u6,u7].getD i.toNat (0:Int)).fdiv (2^min c.toNat 64)).toNat (1:Int)).length≤140737488355328) then bif decide ((xs++List.replicate (([u0,u1,u2,u3,u4,u5,u6,u7].getD i.toNat (0:Int)).fdiv (2^min c.toNat 64)).toNat (1:Int)++[0]).length*8≤140737488355328∧(xs++List.replicate (([u0,u1,u2,u3,u4,u5,u6,u7].getD i.toNat (0:Int)).fdiv (2^min c.toNat 64)).toNat (1:Int)++[0]).length≤140737488355328) then(0≤c∧c≤100∧(xs++List.replicate (([u0,u1,u2,u3,u4,u5,u6,u7].getD i.toNat (0:Int)).fdiv (2^min c.toNat 64)).toNat (1:Int)++[0]).length≤1000000000)∧bif decide (c>0) then K .normal [.one (.int .i64 c),.one (.ptr 0 1 0 0),AV.agg [SV.int .i64 u0,SV.int .i64 u1,SV.int .i64 u2,SV.int .i64 u3,SV.int .i64 u4,SV.int .i64 u5,SV.int .i64 u6,SV.int .i64 u7],.one (.int .i64 (IntKind.i64.wrap (i+1)))] [Blk.cells [SV.own 1 1],Blk.row 3 (Row.ints .i64 (xs++List.replicate (([u0,u1,u2,u3,u4,u5,u6,u7].getD i.toNat (0:Int)).fdiv (2^min c.toNat 64)).toNat (1:Int)++[0]++bitsN ([u0,u1,u2,u3,u4,u5,u6,u7].getD i.toNat (0:Int)) c.toNat))] else K .normal [.one (.int .i64 c),.one (.ptr 0 1 0 0),AV.agg [SV.int .i64 u0,SV.int .i64 u1,SV.int .i64 u2,SV.int .i64 u3,SV.int .i64 u4,SV.int .i64 u5,SV.int .i64 u6,SV.int .i64 u7],.one (.int .i64 (IntKind.i64.wrap (i+1)))] [Blk.cells [SV.own 1 1],Blk.row 3 (Row.ints .i64 (xs++List.replicate (([u0,u1,u2,u3,u4,u5,u6,u7].getD i.toNat (0:Int)).fdiv (2^min c.toNat 64)).toNat (1:Int)++[0]))] else False else False else False else False else K (.exit 4) [.one (.ptr 0 1 0 0)] [Blk.cells [SV.own 1 1],Blk.row 3 (Row.ints .i64 xs)]):=by kernel_rfl
end Go.Ev
namespace Go.Ev
open Go Go.Proofs
attribute [local irreducible] evFn evBody
set_option maxRecDepth 20000
theorem ok28L:AllOK Tryz.prog [(65,samplesS),(66,lengthS),(67,byS writeS1 writeS2),(68,codedS),(69,repeatS)]:= .cons ok82 (.cons ok83 (.cons ok84 (.cons ok85 (.cons ok86 .nil))))
theorem lok28b:LoopOK E28 (lb Tryz.f22 1) [1,5,6,7,8,19,22] [1,5,6,7,19] innerL:=by
 refine loopOK ok28L (noInner (by kernel_rfl)) (fun vs _=>match vs with
  |[_,_,_,_,_,_,.one (.int .i64 i)]=>(18-i).toNat
  |_=>0) fun vs σ k h=> ?_
 unfold innerL at h
 split at h
 ·rename_i b bp bk p q i x0 x1 x2 x3 x4 x5 x6 x7
  rw[ex28b x0 x1 x2 x3 x4 x5 x6 x7 b bp bk p q i _]
  obtain⟨⟨h1,h2,h3⟩,h⟩:=h
  by_cases hi:i<18
  ·have hw:IntKind.i64.wrap (i+1)=i+1:=wrap_id (by omega) (by omega)
   have e1:(18-i).toNat=(18-(i+1)).toNat+1:=by omega
   have hmu:(18-(i+1)).toNat<(18-i).toNat:=by omega
   rw[e1] at h
   simp only[bestK] at h
   unfold bst at h
   simp only[hi,decide_true,cond_true,hw]
   refine⟨⟨h1,h2,by omega⟩,?_⟩
   cases hb:b==0 with
   |true=>
    rw[hb] at h
    exact⟨⟨⟨h1,by omega,by omega⟩,h⟩,hmu⟩
   |false=>
    rw[hb] at h
    cases hl:decide (lenG p i [x0,x1,x2,x3,x4,x5,x6,x7]<b) with
    |true=>
     rw[hl] at h
     exact⟨⟨⟨h1,by omega,by omega⟩,h⟩,hmu⟩
    |false=>
     rw[hl] at h
     exact⟨⟨⟨h1,by omega,by omega⟩,h⟩,hmu⟩
  ·have e:i=18:=by omega
   subst e
   simp only[hi,decide_false,cond_false]
   exact h
 ·exact h.elim
theorem inner28: ∀b' ∈ loopsOf (lb Tryz.f22 0),LoopHyp E28 b':=by
 have hl:loopsOf (lb Tryz.f22 0)=[lb Tryz.f22 1]:=by kernel_rfl
 rw[hl]
 intro b' hb
 rw[List.mem_singleton] at hb
 subst hb
 exact loopHyp_of (key:=9) (by kernel_rfl) rfl lok28b
theorem lok28a:LoopOK E28 (lb Tryz.f22 0) [1,5,6,7,19] [1,6,7] outerL:=by
 refine loopOK ok28L inner28 (fun vs _=>match vs with
  |[_,_,_,_,.one (.int .i64 i)]=>(3-i).toNat
  |_=>0) fun vs σ k h=> ?_
 unfold outerL at h
 split at h
 ·rename_i b bp bk p x0 x1 x2 x3 x4 x5 x6 x7
  rw[ex28a x0 x1 x2 x3 x4 x5 x6 x7 b bp bk p _]
  obtain⟨⟨h1,h2,h3⟩,h⟩:=h
  by_cases hi:p<3
  ·have hw:IntKind.i64.wrap (p+1)=p+1:=wrap_id (by omega) (by omega)
   have e1:(3-p).toNat=(3-(p+1)).toNat+1:=by omega
   have hmu:(3-(p+1)).toNat<(3-p).toNat:=by omega
   rw[e1] at h
   simp only[hi,decide_true,cond_true,hw]
   exact⟨⟨h1,by omega,by omega⟩,⟨⟨h1,by omega,by omega⟩,h⟩,hmu⟩
  ·have e:p=3:=by omega
   subst e
   simp only[hi,decide_false,cond_false]
   exact h
 ·exact h.elim
theorem codes_step{k:Int}{us:List Int}{i:Int}(h0:0≤i)(hi:i<us.length)(xs:List Int):xs++codesG k (us.drop i.toNat)=
  (xs++List.replicate ((us.getD i.toNat 0).fdiv (2^min k.toNat 64)).toNat 1++[0]++bitsN (us.getD i.toNat 0) k.toNat)++codesG k (us.drop (i+1).toNat):=by
 rw[drop_step 0 (by omega),show(i+1).toNat=i.toNat+1 by omega]
 simp only[codesG,List.append_assoc]
theorem bitsN_length(n:Int): ∀c,(bitsN n c).length=c
 |0=>rfl
 |c+1=>by simp[bitsN,bitsN_length n c]
theorem lok28c:LoopOK E28 (lb Tryz.f22 2) [7,11,47,48] [11] codesL:=by
 refine loopOK ok28L (noInner (by kernel_rfl)) (fun vs _=>match vs with
  |[_,_,_,.one (.int .i64 i)]=>(8-i).toNat
  |_=>0) fun vs σ k h=> ?_
 unfold codesL at h
 split at h
 ·rename_i c u0 u1 u2 u3 u4 u5 u6 u7 i xs
  rw[ex28c c u0 u1 u2 u3 u4 u5 u6 u7 i xs _]
  obtain⟨⟨h1,h2,h3,h4,h5,h6⟩,h⟩:=h
  by_cases hi:i<8
  ·have hw:IntKind.i64.wrap (i+1)=i+1:=wrap_id (by omega) (by omega)
   have hmu:(8-(i+1)).toNat<(8-i).toNat:=by omega
   have hc:¬c<0:=by omega
   rw[codes_step h3 (by simpa using hi)] at h
   have hr:=getD_range (B:=262136) (by decide) (fun u hu=>by
    have:=List.all_eq_true.1 h6 u hu
    unfold okU at this
    simpa using this) i.toNat
   generalize [u0,u1,u2,u3,u4,u5,u6,u7].getD i.toNat 0=u at *
   have hf:=fdiv_range (min c.toNat 64) hr
   generalize u.fdiv (2^min c.toNat 64)=s at *
   have hs:(List.replicate s.toNat (1:Int)).length=s.toNat:=by simp
   generalize List.replicate s.toNat (1:Int)=rep at *
   have hb1:(xs++rep).length*8≤140737488355328∧(xs++rep).length≤140737488355328:=by rw[List.length_append];omega
   have hb2:(xs++rep++[0]).length*8≤140737488355328∧(xs++rep++[0]).length≤140737488355328:=by rw[List.length_append,List.length_append];simp;omega
   have hb3:(xs++rep++[0]).length≤1000000000:=by rw[List.length_append,List.length_append];simp;omega
   simp only[hi,hc,hw,h3,hb1,hb2,decide_true,decide_false,Bool.not_false,Bool.and_self,cond_true,and_self]
   refine⟨⟨by omega,by omega⟩,⟨h1,by omega,hb3⟩,?_⟩
   by_cases hcp:c>0
   ·simp only[hcp,decide_true,cond_true]
    refine⟨⟨⟨h1,h2,by omega,by omega,?_,h6⟩,h⟩,hmu⟩
    simp only[List.length_append,List.length_cons,List.length_nil,bitsN_length]
    omega
   ·have e:c=0:=by omega
    subst e
    simp only[hcp,decide_false,cond_false]
    have e2:bitsN u (0:Int).toNat=[]:=rfl
    rw[e2,List.append_nil] at h
    refine⟨⟨⟨h1,h2,by omega,by omega,?_,h6⟩,h⟩,hmu⟩
    simp only[List.length_append,List.length_cons,List.length_nil]
    omega
  ·have e:i=8:=by omega
   subst e
   simp only[hi,decide_false,cond_false]
   have e2:xs++codesG c ([u0,u1,u2,u3,u4,u5,u6,u7].drop (8:Int).toNat)=xs:=by
    show xs++[]=xs
    rw[List.append_nil]
   rw[e2] at h
   exact h
 ·exact h.elim
theorem bestK_range{xs:List Int}{p:Int}: ∀(n:Nat) (k:Int) (s:Tri),0≤k→k+n≤18→(0≤s.2.2∧s.2.2≤17)→(0≤(bestK xs p n k s).2.2∧(bestK xs p n k s).2.2≤17)
 |0,_,_,_,_,h=>h
 |n+1,k,s,h0,h1,h=>by
  refine bestK_range n (k+1) _ (by omega) (by omega) ?_
  unfold bst
  cases s.1==0 with
  |true=>exact⟨h0,by show k≤17;omega⟩
  |false=>
   cases decide (lenG p k xs<s.1) with
   |true=>exact⟨h0,by show k≤17;omega⟩
   |false=>exact h
theorem bestP_range{xs:List Int}: ∀(n:Nat) (p:Int) (s:Tri),(0≤s.2.2∧s.2.2≤17)→(0≤(bestP xs n p s).2.2∧(bestP xs n p s).2.2≤17)
 |0,_,_,h=>h
 |n+1,p,s,h=>bestP_range n (p+1) _ (bestK_range 18 0 s (by decide) (by decide) h)
theorem ok28:SpecOK Tryz.prog 22 packedS:=by
 refine specOK (n:=66) (m:=0) (lps:=[(6,.spec [1,5,6,7,19] [1,6,7] outerL),(9,.spec [1,5,6,7,8,19,22] [1,5,6,7,19] innerL),(20,.spec [7,11,47,48] [11] codesL)]) ok28L Tryz.func22 (by kernel_rfl) (by kernel_rfl) (theLoops (n:=3) (by kernel_rfl) fun i hi=> ?_) fun args σ K h=> ?_
 ·match i,hi with
  |0,_=>exact loopHyp_of (key:=6) (by kernel_rfl) rfl lok28a
  |1,_=>exact loopHyp_of (key:=9) (by kernel_rfl) rfl lok28b
  |2,_=>exact loopHyp_of (key:=20) (by kernel_rfl) rfl lok28c
 ·unfold packedS at h
  split at h
  ·rename_i x0 x1 x2 x3 x4 x5 x6 x7
   rw[ex28 x0 x1 x2 x3 x4 x5 x6 x7 K]
   cases hs:[x0,x1,x2,x3,x4,x5,x6,x7].all sampleG with
   |false=>rw[hs] at h;exact h
   |true=>
    rw[hs] at h
    have hbr:0≤(bestP [x0,x1,x2,x3,x4,x5,x6,x7] 3 0 (0,0,0)).2.2∧(bestP [x0,x1,x2,x3,x4,x5,x6,x7] 3 0 (0,0,0)).2.2≤17:=bestP_range 3 0 _ (by decide)
    have hall:(codG (bestP [x0,x1,x2,x3,x4,x5,x6,x7] 3 0 (0,0,0)).2.1 [x0,x1,x2,x3,x4,x5,x6,x7]).all okU=true:=List.all_eq_true.2 fun u hu=>by
     have:=cod_range hs u hu
     unfold okU
     simpa using this
    obtain⟨u0,u1,u2,u3,u4,u5,u6,u7,e⟩:=cod_eight (bestP [x0,x1,x2,x3,x4,x5,x6,x7] 3 0 (0,0,0)).2.1 x0 x1 x2 x3 x4 x5 x6 x7
    unfold packG bestG at h
    rw[e] at h hall
    have h':K (.tup [.one (.own 0 1),.one (.int .i64 0)]) [.row 3 (.ints .i64 (bitsN (bestP [x0,x1,x2,x3,x4,x5,x6,x7] 3 0 (0,0,0)).2.1 2++bitsN (bestP [x0,x1,x2,x3,x4,x5,x6,x7] 3 0 (0,0,0)).2.2 5++codesG (bestP [x0,x1,x2,x3,x4,x5,x6,x7] 3 0 (0,0,0)).2.2 [u0,u1,u2,u3,u4,u5,u6,u7]))]:=h
    rw[e]
    refine⟨⟨rfl,by decide,by decide⟩,⟨by decide,by decide⟩,⟨by decide,by decide,by rw[bitsN_length];decide⟩,⟨hbr.1,hbr.2,by decide,by decide,by rw[List.length_append,bitsN_length,bitsN_length];decide,hall⟩,h'⟩
  ·exact h.elim
end Go.Ev
namespace Go.Ev
open Go Go.Proofs
set_option maxRecDepth 20000
def isSampleS:Spec:=fun args σ K=>match args,σ with
 |[.one (.int .i64 n)],[]=>K (.one (.bool (sampleG n))) []
 |_,_=>False
def areL:LSpec:=fun vs σ k=>match vs,σ with
 |[.one (.data (.ints .i64 l)),.one (.int .i64 i)],[]=>
  (l.length≤1000000000∧0≤i)∧bif (l.drop i.toNat).all sampleG then k (.exit 0) [.any] [] else k .ret [.one (.bool false)] []
 |_,_=>False
def areS:Spec:=fun args σ K=>match args,σ with
 |[.one (.data (.ints .i64 l))],[]=>l.length≤1000000000∧K (.one (.bool (l.all sampleG))) []
 |_,_=>False
def blockE(c ch:Int)(xs:List Int)(sm:Int):Int:=bif contentG c ch xs then(bif sm != sumG c ch xs then 20 else 0) else 2
def blockS:Spec:=fun args σ K=>match args,σ with
 |[.agg [.int .i64 c,.int .i64 ch,.int .i64 x0,.int .i64 x1,.int .i64 x2,.int .i64 x3,.int .i64 x4,.int .i64 x5,.int .i64 x6,.int .i64 x7,.int .i64 sm]],[]=>K (.one (.int .i64 (blockE c ch [x0,x1,x2,x3,x4,x5,x6,x7] sm))) []
 |_,_=>False
noncomputable abbrev E108:Env:=envOf Tryz.prog [(19,withinS)] [] 5 0
noncomputable abbrev E81:Env:=envOf Tryz.prog [(102,isSampleS)] [(2,.spec [0,3] [2] areL)] 16 0
noncomputable abbrev E80:Env:=envOf Tryz.prog [(19,withinS)] [] 6 0
noncomputable abbrev E21:Env:=envOf Tryz.prog [(34,sumOfS),(50,unlessS),(49,firstS)] [] 18 0
end Go.Ev
namespace Go.Ev
open Go Go.Proofs
set_option maxRecDepth 100000
theorem ex108(n:Int)(K:AV→List Blk→Prop):evFn E108 Tryz.f102 [.one (.int .i64 n)] [] K=(K (.one (.bool (decide ((-32767:Int)≤n)&&decide (n≤32767)))) []):=by kernel_rfl
theorem ex81(l:List Int)(K:AV→List Blk→Prop):evFn E81 Tryz.f57 [.one (.data (.ints .i64 l))] [] K=((l.length≤1000000000∧(0:Int)≤(0:Int))∧bif l.all sampleG then K (.one (.bool true)) [] else K (.one (.bool false)) []):=by kernel_rfl
theorem ex81a(l:List Int)(i:Int)(K:Ex→List AV→List Blk→Prop):evBody E81 (lb Tryz.f57 0) [0,3] [2] [.one (.data (.ints .i64 l)),.one (.int .i64 i)] [] K=(bif decide (i<(↑l.length:Int)) then bif decide (0≤i)&&decide (i<(↑l.length:Int)) then bif decide (i.toNat+0<l.length) then bif !sampleG (l.getD (i.toNat+0) 0) then K .ret [.one (.bool false)] [] else K .normal [.one (.data (Row.ints .i64 l)),.one (.int .i64 (IntKind.i64.wrap (i+1)))] [] else False else False else K (.exit 0) [AV.any] []):=by kernel_rfl
theorem ex80(n:Int)(K:AV→List Blk→Prop):evFn E80 Tryz.f58 [.one (.int .i64 n)] [] K=(bif !(decide (0≤n)&&decide (n≤3)) then K (.one (.int .i64 2)) [] else K (.one (.int .i64 0)) []):=by kernel_rfl
theorem ex21(c ch x0 x1 x2 x3 x4 x5 x6 x7 sm:Int)(K:AV→List Blk→Prop):evFn E21 Tryz.f24 [.agg [.int .i64 c,.int .i64 ch,.int .i64 x0,.int .i64 x1,.int .i64 x2,.int .i64 x3,.int .i64 x4,.int .i64 x5,.int .i64 x6,.int .i64 x7,.int .i64 sm]] [] K=(bif contentG c ch [x0,x1,x2,x3,x4,x5,x6,x7] then[0,bif sm==sumG c ch [x0,x1,x2,x3,x4,x5,x6,x7] then(0:Int) else(20:Int)].length≤1000∧K (.one (.int .i64 (firstE [0,bif sm==sumG c ch [x0,x1,x2,x3,x4,x5,x6,x7] then(0:Int) else(20:Int)]))) [] else[2,bif sm==0 then(0:Int) else(20:Int)].length≤1000∧K (.one (.int .i64 (firstE [2,bif sm==0 then(0:Int) else(20:Int)]))) []):=by kernel_rfl
end Go.Ev
namespace Go.Ev
open Go Go.Proofs
attribute [local irreducible] evFn evBody
set_option maxRecDepth 20000
theorem ok108:SpecOK Tryz.prog 102 isSampleS:=by
 refine specOK (n:=5) (m:=0) (lps:=[]) (.cons ok25 .nil) Tryz.func102 (by kernel_rfl) (by kernel_rfl) (noLoops (by kernel_rfl)) fun args σ K h=> ?_
 unfold isSampleS at h
 split at h
 ·rw[ex108 _ K];exact h
 ·exact h.elim
theorem lok81:LoopOK E81 (lb Tryz.f57 0) [0,3] [2] areL:=by
 refine loopOK (.cons ok108 .nil) (noInner (by kernel_rfl)) (fun vs _=>match vs with
  |[.one (.data (.ints .i64 l)),.one (.int .i64 i)]=>l.length-i.toNat
  |_=>0) fun vs σ k h=> ?_
 unfold areL at h
 split at h
 ·rename_i l i
  rw[ex81a l i _]
  obtain⟨⟨h1,h2⟩,h⟩:=h
  by_cases hi:i<l.length
  ·have hw:IntKind.i64.wrap (i+1)=i+1:=wrap_id (by omega) (by omega)
   have hi':i.toNat<l.length:=by omega
   have hmu:l.length-(i+1).toNat<l.length-i.toNat:=by omega
   rw[all_step h2 hi] at h
   simp only[hi,hi',h2,hw,Nat.add_zero,decide_true,Bool.and_self,cond_true]
   cases hs:sampleG (l.getD i.toNat 0) with
   |true=>rw[hs] at h;exact⟨⟨⟨h1,by omega⟩,h⟩,hmu⟩
   |false=>rw[hs] at h;exact h
  ·rw[List.drop_eq_nil_of_le (by omega)] at h
   simp only[hi,decide_false,cond_false]
   exact h
 ·exact h.elim
theorem ok81:SpecOK Tryz.prog 57 areS:=by
 refine specOK (n:=16) (m:=0) (lps:=[(2,.spec [0,3] [2] areL)]) (.cons ok108 .nil) Tryz.func57 (by kernel_rfl) (by kernel_rfl) (theLoops (n:=1) (by kernel_rfl) fun i hi=> ?_) fun args σ K h=> ?_
 ·match i,hi with
  |0,_=>exact loopHyp_of (key:=2) (by kernel_rfl) rfl lok81
 ·unfold areS at h
  split at h
  ·rename_i l
   rw[ex81 l K]
   obtain⟨h1,h⟩:=h
   refine⟨⟨h1,by omega⟩,?_⟩
   cases hs:l.all sampleG<;>rw[hs] at h<;>exact h
  ·exact h.elim
theorem ok80:SpecOK Tryz.prog 58 channelS:=by
 refine specOK (n:=6) (m:=0) (lps:=[]) (.cons ok25 .nil) Tryz.func58 (by kernel_rfl) (by kernel_rfl) (noLoops (by kernel_rfl)) fun args σ K h=> ?_
 unfold channelS at h
 split at h
 ·rename_i n
  rw[ex80 _ K]
  unfold withinG at h
  cases hs:(decide (0≤n)&&decide (n≤3))<;>rw[hs] at h<;>exact h
 ·exact h.elim
theorem content_range{c ch x0 x1 x2 x3 x4 x5 x6 x7:Int}(h:contentG c ch [x0,x1,x2,x3,x4,x5,x6,x7]=true):(0≤c∧c≤65535)∧(0≤ch∧ch≤3)∧(-32767≤x0∧x0≤32767)∧(-32767≤x1∧x1≤32767)∧(-32767≤x2∧x2≤32767)∧(-32767≤x3∧x3≤32767)∧(-32767≤x4∧x4≤32767)∧(-32767≤x5∧x5≤32767)∧(-32767≤x6∧x6≤32767)∧(-32767≤x7∧x7≤32767):=by
 unfold contentG withinG at h
 simp only[Bool.and_eq_true,decide_eq_true_eq,List.all_cons,List.all_nil,and_true] at h
 obtain⟨⟨a,b⟩,s0,s1,s2,s3,s4,s5,s6,s7⟩:=h
 exact⟨a,b,sample_range s0,sample_range s1,sample_range s2,sample_range s3,sample_range s4,sample_range s5,sample_range s6,sample_range s7⟩
theorem sumG_mod{c ch x0 x1 x2 x3 x4 x5 x6 x7:Int}(h:contentG c ch [x0,x1,x2,x3,x4,x5,x6,x7]=true):sumG c ch [x0,x1,x2,x3,x4,x5,x6,x7]=(9*c+10*ch+1*(x0+32768)+2*(x1+32768)+3*(x2+32768)+4*(x3+32768)+5*(x4+32768)+6*(x5+32768)+7*(x6+32768)+8*(x7+32768))%65537:=by
 obtain⟨a,b,r0,r1,r2,r3,r4,r5,r6,r7⟩:=content_range h
 unfold sumG
 simp only[sumA]
 rw[Int.tmod_eq_emod_of_nonneg (by omega)]
 congr 1
 omega
theorem ok21:SpecOK Tryz.prog 24 blockS:=by
 refine specOK (n:=18) (m:=0) (lps:=[]) (.cons ok20 (.cons ok70 (.cons ok69 .nil))) Tryz.func24 (by kernel_rfl) (by kernel_rfl) (noLoops (by kernel_rfl)) fun args σ K h=> ?_
 unfold blockS at h
 split at h
 ·rename_i c ch x0 x1 x2 x3 x4 x5 x6 x7 sm
  rw[ex21 c ch x0 x1 x2 x3 x4 x5 x6 x7 sm K]
  unfold blockE at h
  cases hc:contentG c ch [x0,x1,x2,x3,x4,x5,x6,x7] with
  |false=>rw[hc] at h;exact⟨by simp,h⟩
  |true=>
   rw[hc] at h
   refine⟨by simp,?_⟩
   unfold bne at h
   cases hs:sm==sumG c ch [x0,x1,x2,x3,x4,x5,x6,x7]<;>rw[hs] at h<;>exact h
 ·exact h.elim
end Go.Ev
namespace Go.Ev
open Go Go.Proofs
attribute [local irreducible] evFn evBody
set_option maxRecDepth 20000
theorem bitG_eq{n:Int}{i:Nat}(h0:0≤n)(h1:n<9223372036854775808)(hi:i≤62):bitG n i=(n/2^i)%2:=by
 unfold bitG
 rw[Nat.min_eq_left (by omega)]
 have hr:=fdiv_range (B:=9223372036854775807) i ⟨h0,by omega⟩
 rw[and_mask hr.1 (by omega) 1 1 (by decide) (by decide),fdiv_pow]
 rw[wi_id (by omega) (by omega)]
 rfl
theorem best_range(xs:List Int):0≤(bestG xs).2.2∧(bestG xs).2.2≤17:=bestP_range 3 0 _ (by decide)
theorem lenG_pos{p k:Int}{xs:List Int}(h:xs.all sampleG=true)(hk:0≤k):0<lenG p k xs:=by
 have: ∀us:List Int,(∀u ∈ us,0≤u∧u≤262136)→0≤lenR k us:=by
  intro us
  induction us with
  |nil=>intro _;exact Int.le_refl _
  |cons u us ih=>
   intro hu
   have h1:=ih fun v hv=>hu v (by simp[hv])
   have h2:=fdiv_range (min k.toNat 64) (hu u (by simp))
   simp only[lenR,shrG]
   omega
 have:=this _ (cod_range (p:=p) h)
 unfold lenG
 omega
def Told(xs:List Int)(s:Tri):Prop:=s.1=lenG s.2.1 s.2.2 xs
theorem bst_told{xs:List Int}{p k:Int}{s:Tri}(h:Told xs s):Told xs (bst xs p k s):=by
 unfold bst
 cases s.1==0 with
 |true=>rfl
 |false=>
  cases decide (lenG p k xs<s.1) with
  |true=>rfl
  |false=>exact h
theorem bestK_told{xs:List Int}{p:Int}: ∀(n:Nat) (k:Int) (s:Tri),Told xs s→Told xs (bestK xs p n k s)
 |0,_,_,h=>h
 |n+1,k,s,h=>bestK_told n (k+1) _ (bst_told h)
theorem bst_one{xs:List Int}{p k bp bk:Int}(h:xs.all sampleG=true)(hk:0≤bk):bst xs p k (lenG bp bk xs,bp,bk)=bif decide (lenG p k xs<lenG bp bk xs) then(lenG p k xs,p,k) else(lenG bp bk xs,bp,bk):=by
 unfold bst
 have hb:(lenG bp bk xs==0)=false:=beq_eq_false_iff_ne.2 (by have:=lenG_pos (p:=bp) h hk;omega)
 dsimp only
 rw[hb]
 rfl
theorem best_start{xs:List Int}(h:xs.all sampleG=true):bestP xs 3 0 (lenG 0 0 xs,0,0)=bestG xs:=by
 have e1:bst xs 0 0 (lenG 0 0 xs,0,0)=(lenG 0 0 xs,0,0):=by
  rw[bst_one h (by decide)]
  cases decide (lenG 0 0 xs<lenG 0 0 xs)<;>rfl
 have e2:bst xs 0 0 (0,0,0)=(lenG 0 0 xs,0,0):=rfl
 unfold bestG
 show bestP xs 2 1 (bestK xs 0 17 1 (bst xs 0 0 (lenG 0 0 xs,0,0)))=bestP xs 2 1 (bestK xs 0 17 1 (bst xs 0 0 (0,0,0)))
 rw[e1,e2]
theorem bestK_first{xs:List Int}{p:Int}: ∀(n:Nat) (k:Int) (s:Tri),(0≤p∧p≤2)→(0≤s.2.1∧s.2.1≤2)→(0≤(bestK xs p n k s).2.1∧(bestK xs p n k s).2.1≤2)
 |0,_,_,_,h=>h
 |n+1,k,s,hp,h=>by
  refine bestK_first n (k+1) _ hp ?_
  unfold bst
  cases s.1==0 with
  |true=>exact hp
  |false=>
   cases decide (lenG p k xs<s.1) with
   |true=>exact hp
   |false=>exact h
theorem bestP_first{xs:List Int}: ∀(n:Nat) (p:Int) (s:Tri),0≤p→p+n≤3→(0≤s.2.1∧s.2.1≤2)→(0≤(bestP xs n p s).2.1∧(bestP xs n p s).2.1≤2)
 |0,_,_,_,_,h=>h
 |n+1,p,s,hp,hn,h=>bestP_first n (p+1) _ (by omega) (by omega) (bestK_first 18 0 s (by omega) h)
theorem best_first(xs:List Int):0≤(bestG xs).2.1∧(bestG xs).2.1≤2:=bestP_first 3 0 _ (by decide) (by decide) (by decide)
end Go.Ev
namespace Go.Ev
open Go Go.Proofs
set_option maxRecDepth 20000
def oddB(b:Int):Bool:= !withinG b 0 1
def oddS:Spec:=fun args σ K=>match args,σ with
 |[.one (.int .i64 n)],[]=>K (.one (.bool (oddB n))) []
 |_,_=>False
def idxI(i:Int):List Int→Int
 |[]=> -1
 |b::l=>bif oddB b then i else idxI (i+1) l
def idxL:LSpec:=fun vs σ k=>match vs,σ with
 |[.one (.data (.ints .i64 l)),.one (.func 71 []),.one (.int .i64 n),.one (.int .i64 i)],[]=>
  (l.length≤1000000000∧0≤i∧n=l.length)∧bif (l.drop i.toNat).any oddB then k .ret [.one (.int .i64 (idxI i (l.drop i.toNat)))] [] else k (.exit 0) [.any] []
 |_,_=>False
def idxoS:Spec:=fun args σ K=>match args,σ with
 |[.one (.data (.ints .i64 l)),.one (.func 71 [])],[]=>l.length≤1000000000∧K (.one (.int .i64 (idxI 0 l))) []
 |_,_=>False
def containsOddS:Spec:=fun args σ K=>match args,σ with
 |[.one (.data (.ints .i64 l)),.one (.func 71 [])],[]=>l.length≤1000000000∧K (.one (.bool (decide (idxI 0 l≥0)))) []
 |_,_=>False
def bitS:Spec:=fun args σ K=>match args,σ with
 |[.one (.ptr 0 1 0 0)],[.cells [.data (.ints .i64 l),.bool e]]=>K (.one (.int .i64 (l.getD 0 0))) [.cells [.data (.ints .i64 (l.drop 1)),.bool (e||l.isEmpty)]]
 |_,_=>False
def readV:Nat→Int→List Int→Int
 |0,n,_=>n
 |c+1,n,l=>readV c (wi (wi (2*n)+l.getD 0 0)) (l.drop 1)
def readL:LSpec:=fun vs σ k=>match vs,σ with
 |[.one (.ptr 0 1 0 0),.one (.int .i64 n),.one (.int .i64 c),.one (.int .i64 i)],[.cells [.data (.ints .i64 l),.bool e]]=>
  (0≤i∧i≤c∧c≤1000)∧k (.exit 0) [.one (.int .i64 (readV (c-i).toNat n l))] [.cells [.data (.ints .i64 (l.drop (c-i).toNat)),.bool (e||decide (l.length<(c-i).toNat))]]
 |_,_=>False
def readS:Spec:=fun args σ K=>match args,σ with
 |[.one (.ptr 0 1 0 0),.one (.int .i64 c)],[.cells [.data (.ints .i64 l),.bool e]]=>
  (0≤c∧c≤1000)∧K (.one (.int .i64 (readV c.toNat 0 l))) [.cells [.data (.ints .i64 (l.drop c.toNat)),.bool (e||decide (l.length<c.toNat))]]
 |_,_=>False
def onesN:List Int→Nat
 |[]=>0
 |b::l=>bif b==1 then onesN l+1 else 0
def onesRL:LSpec:=fun vs σ k=>match vs,σ with
 |[.one (.ptr 0 1 0 0),.one (.int .i64 p),.one (.int .i64 n)],[.cells [.data (.ints .i64 l),.bool e]]=>
  (0≤n∧n+l.length≤1000000000)∧k (.exit 0) [.one (.ptr 0 1 0 0),.one (.int .i64 p),.one (.int .i64 (n+onesN l))] [.cells [.data (.ints .i64 (l.drop (onesN l+1))),.bool (e||decide (l.length<onesN l+1))]]
 |_,_=>False
def codeV(k:Nat)(l:List Int):Int:=wi (wi ((onesN l:Int)*2^min k 64)+readV k 0 (l.drop (onesN l+1)))
def codeS:Spec:=fun args σ K=>match args,σ with
 |[.one (.ptr 0 1 0 0),.one (.int .i64 c)],[.cells [.data (.ints .i64 l),.bool e]]=>
  (0≤c∧c≤60∧l.length≤100000000)∧K (.one (.int .i64 (codeV c.toNat l))) [.cells [.data (.ints .i64 (l.drop (onesN l+1+c.toNat))),.bool (e||decide (l.length<onesN l+1+c.toNat))]]
 |_,_=>False
def resid(u:Int):Int:=bif u.tmod 2==1 then wi (wi (0-wi (u.tdiv 2))-1) else wi (u.tdiv 2)
def unpX(p:Int)(k:Nat):Nat→Int→Int→List Int→List Int
 |0,_,_,_=>[]
 |n+1,last,bef,l=>wi (expG p last bef+resid (codeV k l))::unpX p k n (wi (expG p last bef+resid (codeV k l))) last (l.drop (onesN l+1+k))
def unpL(k:Nat):Nat→List Int→List Int
 |0,l=>l
 |n+1,l=>unpL k n (l.drop (onesN l+1+k))
def unpE(k:Nat):Nat→List Int→Bool
 |0,_=>false
 |n+1,l=>decide (l.length<onesN l+1+k)||unpE k n (l.drop (onesN l+1+k))
def unpLS:LSpec:=fun vs σ k=>match vs,σ with
 |[.one (.ptr 0 1 0 0),.one (.ptr 1 1 0 0),.one (.int .i64 p),.one (.int .i64 c),.one (.ptr 2 1 0 0),.one (.int .i64 last),.one (.int .i64 bef),.one (.int .i64 i)],[.row 22 (.ints .i64 z),.cells [.data (.ints .i64 l),.bool e],.row 119 (.ints .i64 x)]=>
  (0≤i∧i≤8∧0≤c∧c≤60∧x.length=8∧l.length≤10000)∧k (.exit 0) [.one (.ptr 0 1 0 0),.one (.ptr 1 1 0 0),.one (.ptr 2 1 0 0)]
   [.row 22 (.ints .i64 z),.cells [.data (.ints .i64 (unpL c.toNat (8-i).toNat l)),.bool (e||unpE c.toNat (8-i).toNat l)],.row 119 (.ints .i64 (x.take i.toNat++unpX p c.toNat (8-i).toNat last bef l))]
 |_,_=>False
def badE(l:List Int):Int:=firstE [bif decide ((l.length:Int)≤3000) then 0 else 8,bif !decide (idxI 0 l≥0) then 0 else 2,bif decide ((l.length:Int)≥7) then 0 else 10]
def prG(l:List Int):Int:=readV 2 0 l
def paG(l:List Int):Int:=readV 5 0 (l.drop 2)
def unpackX(l:List Int):List Int:=unpX (prG l) (paG l).toNat 8 0 0 (l.drop 7)
def unpackE(l:List Int):Int:= bif badE l != 0 then badE l else bif decide (prG l≥3)||decide (paG l≥18) then 3 else bif unpE (paG l).toNat 8 (l.drop 7)||decide ((unpL (paG l).toNat 8 (l.drop 7)).length>0) then 10 else bif (unpackX l).all sampleG then 0 else 2
def ag8e(ys:List Int)(e:Int):AV:= .tup [.agg [.int .i64 (ys.getD 0 0),.int .i64 (ys.getD 1 0),.int .i64 (ys.getD 2 0),.int .i64 (ys.getD 3 0),.int .i64 (ys.getD 4 0),.int .i64 (ys.getD 5 0),.int .i64 (ys.getD 6 0),.int .i64 (ys.getD 7 0)],.one (.int .i64 e)]
def zeros8:List Int:=[0,0,0,0,0,0,0,0]
def unpackS:Spec:=fun args σ K=>match args,σ with
 |[.one (.data (.ints .i64 l))],[]=>l.length≤1000000000∧bif unpackE l==0 then K (ag8e (unpackX l) 0) [] else K (ag8e zeros8 (unpackE l)) []
 |_,_=>False
noncomputable abbrev E103:Env:=envOf Tryz.prog [(46,withinS)] [] 6 0
noncomputable abbrev E131:Env:=envOf Tryz.prog [(71,oddS)] [(2,.spec [0,1,7,8] [4] idxL)] 19 0
noncomputable abbrev E102:Env:=envOf Tryz.prog [(105,idxoS)] [] 9 0
noncomputable abbrev E132:Env:=envOf Tryz.prog [] [] 28 1
noncomputable abbrev E104:Env:=envOf Tryz.prog [(106,bitS)] [(3,.spec [0,5,6,7] [5] readL)] 16 1
noncomputable abbrev E105:Env:=envOf Tryz.prog [(106,bitS),(72,readS)] [(2,.spec [0,1,5] [0,1,5] onesRL)] 18 1
noncomputable abbrev E47:Env:=envOf Tryz.prog [(70,containsOddS),(50,unlessS),(49,firstS),(72,readS),(73,codeS),(74,expectedS),(65,samplesS)] [(12,.spec [2,6,7,8,9,10,11,49] [2,6,9] unpLS)] 96 0
end Go.Ev
namespace Go.Ev
open Go Go.Proofs
set_option maxRecDepth 100000
theorem ex103(n:Int)(K:AV→List Blk→Prop):evFn E103 Tryz.f71 [.one (.int .i64 n)] [] K=(K (.one (.bool !(decide (0≤n)&&decide (n≤1)))) []):=by kernel_rfl
theorem ex131(l:List Int)(K:AV→List Blk→Prop):evFn E131 Tryz.f105 [.one (.data (.ints .i64 l)),.one (.func 71 [])] [] K=((l.length≤1000000000∧(0:Int)≤(0:Int)∧(↑l.length:Int)=(↑l.length:Int))∧bif l.any oddB then K (.one (.int .i64 (idxI 0 l))) [] else K (.one (.int .i64 (-1:Int))) []):=by kernel_rfl
theorem ex131a(l:List Int)(n i:Int)(K:Ex→List AV→List Blk→Prop):evBody E131 (lb Tryz.f105 0) [0,1,7,8] [4] [.one (.data (.ints .i64 l)),.one (.func 71 []),.one (.int .i64 n),.one (.int .i64 i)] [] K=(bif decide (i<n) then bif decide (0≤i)&&decide (i<(↑l.length:Int)) then bif decide (i.toNat+0<l.length) then bif oddB (l.getD (i.toNat+0) 0) then K .ret [.one (.int .i64 i)] [] else K .normal [.one (.data (Row.ints .i64 l)),.one (.func (71:FuncId) []),.one (.int .i64 n),.one (.int .i64 (IntKind.i64.wrap (i+1)))] [] else False else False else K (.exit 0) [AV.any] []):=by kernel_rfl
theorem ex102(l:List Int)(K:AV→List Blk→Prop):evFn E102 Tryz.f70 [.one (.data (.ints .i64 l)),.one (.func 71 [])] [] K=(l.length≤1000000000∧K (.one (.bool (decide (idxI 0 l≥0)))) []):=by kernel_rfl
theorem ex132(l:List Int)(e:Bool)(K:AV→List Blk→Prop):evFn E132 Tryz.f106 [.one (.ptr 0 1 0 0)] [.cells [.data (.ints .i64 l),.bool e]] K=(bif (↑l.length:Int)==0 then K (.one (.int .i64 0)) [Blk.cells [SV.data (Row.ints .i64 l),SV.bool true]] else bif decide ((0:Int)≤(0:Int))&&decide (0<(↑l.length:Int)) then bif decide (0<l.length) then bif decide ((0:Int)≤(1:Int))&&(decide (l.length≤l.length)&&decide (1≤l.length)) then K (.one (.int .i64 (l.getD 0 0))) [Blk.cells [SV.data (Row.ints .i64 (List.take (l.length-1) (List.drop 1 l))),SV.bool e]] else False else False else False):=by kernel_rfl
theorem ex104(l:List Int)(e:Bool)(c:Int)(K:AV→List Blk→Prop):evFn E104 Tryz.f72 [.one (.ptr 0 1 0 0),.one (.int .i64 c)] [.cells [.data (.ints .i64 l),.bool e]] K=(((0:Int)≤(0:Int)∧0≤c∧c≤1000)∧K (.one (.int .i64 (readV (c-0).toNat (0:Int) l))) [Blk.cells [SV.data (Row.ints .i64 (List.drop (c-0).toNat l)),SV.bool (e||decide (l.length<(c-0).toNat))]]):=by kernel_rfl
theorem ex104a(l:List Int)(e:Bool)(n c i:Int)(K:Ex→List AV→List Blk→Prop):evBody E104 (lb Tryz.f72 0) [0,5,6,7] [5] [.one (.ptr 0 1 0 0),.one (.int .i64 n),.one (.int .i64 c),.one (.int .i64 i)] [.cells [.data (.ints .i64 l),.bool e]] K=(bif decide (i<c) then K .normal [.one (.ptr 0 1 0 0),.one (.int .i64 (IntKind.i64.wrap (IntKind.i64.wrap (2*n)+l.getD 0 0))),.one (.int .i64 c),.one (.int .i64 (IntKind.i64.wrap (i+1)))] [Blk.cells [SV.data (Row.ints .i64 (List.drop 1 l)),SV.bool (e||l.isEmpty)]] else K (.exit 0) [.one (.int .i64 n)] [Blk.cells [SV.data (Row.ints .i64 l),SV.bool e]]):=by kernel_rfl
theorem ex105(l:List Int)(e:Bool)(c:Int)(K:AV→List Blk→Prop):evFn E105 Tryz.f73 [.one (.ptr 0 1 0 0),.one (.int .i64 c)] [.cells [.data (.ints .i64 l),.bool e]] K=(((0:Int)≤(0:Int)∧0+(↑l.length:Int)≤1000000000)∧bif !decide (c<0) then(0≤c∧c≤1000)∧K (.one (.int .i64 (IntKind.i64.wrap (IntKind.i64.wrap ((0+(↑(onesN l):Int))*2^min c.toNat 64)+readV c.toNat (0:Int) (List.drop (onesN l+1) l))))) [Blk.cells [SV.data (Row.ints .i64 (List.drop c.toNat (List.drop (onesN l+1) l))),SV.bool (e||decide (l.length<onesN l+1)||decide ((List.drop (onesN l+1) l).length<c.toNat))]] else False):=by kernel_rfl
theorem ex105a(l:List Int)(e:Bool)(p n:Int)(K:Ex→List AV→List Blk→Prop):evBody E105 (lb Tryz.f73 0) [0,1,5] [0,1,5] [.one (.ptr 0 1 0 0),.one (.int .i64 p),.one (.int .i64 n)] [.cells [.data (.ints .i64 l),.bool e]] K=(bif l.getD 0 (0:Int)==(1:Int) then K .normal [.one (.ptr 0 1 0 0),.one (.int .i64 p),.one (.int .i64 (IntKind.i64.wrap (n+1)))] [Blk.cells [SV.data (Row.ints .i64 (List.drop 1 l)),SV.bool (e||l.isEmpty)]] else K (.exit 0) [.one (.ptr 0 1 0 0),.one (.int .i64 p),.one (.int .i64 n)] [Blk.cells [SV.data (Row.ints .i64 (List.drop 1 l)),SV.bool (e||l.isEmpty)]]):=by kernel_rfl
theorem ex47(l:List Int)(K:AV→List Blk→Prop):evFn E47 Tryz.f23 [.one (.data (.ints .i64 l))] [] K=(l.length≤1000000000∧[bif decide ((↑l.length:Int)≤3000) then(0:Int) else(8:Int),bif !decide (idxI 0 l≥0) then(0:Int) else(2:Int),bif decide ((↑l.length:Int)≥7) then(0:Int) else(10:Int)].length≤1000∧bif firstE [bif decide ((↑l.length:Int)≤3000) then(0:Int) else(8:Int),bif !decide (idxI 0 l≥0) then(0:Int) else(2:Int),bif decide ((↑l.length:Int)≥7) then(0:Int) else(10:Int)]!=0 then K (AV.tup [TV.agg [SV.int .i64 0,SV.int .i64 0,SV.int .i64 0,SV.int .i64 0,SV.int .i64 0,SV.int .i64 0,SV.int .i64 0,SV.int .i64 0],.one (.int .i64 (firstE [bif decide ((↑l.length:Int)≤3000) then(0:Int) else(8:Int),bif !decide (idxI 0 l≥0) then(0:Int) else(2:Int),bif decide ((↑l.length:Int)≥7) then(0:Int) else(10:Int)]))]) [] else((0:Int)≤(2:Int)∧(2:Int)≤(1000:Int))∧((0:Int)≤(5:Int)∧(5:Int)≤(1000:Int))∧bif decide (readV 2 0 l≥3) then K (AV.tup [TV.agg [SV.int .i64 0,SV.int .i64 0,SV.int .i64 0,SV.int .i64 0,SV.int .i64 0,SV.int .i64 0,SV.int .i64 0,SV.int .i64 0],.one (.int .i64 3)]) [] else bif decide (readV 5 0 (List.drop 2 l)≥18) then K (AV.tup [TV.agg [SV.int .i64 0,SV.int .i64 0,SV.int .i64 0,SV.int .i64 0,SV.int .i64 0,SV.int .i64 0,SV.int .i64 0,SV.int .i64 0],.one (.int .i64 3)]) [] else((0:Int)≤(0:Int)∧(0:Int)≤(8:Int)∧0≤readV 5 0 (List.drop 2 l)∧readV 5 0 (List.drop 2 l)≤60∧8=8∧(List.drop 5 (List.drop 2 l)).length≤10000)∧bif false||decide (l.length<2)||decide ((List.drop 2 l).length<5)||unpE (readV 5 0 (List.drop 2 l)).toNat 8 (List.drop 5 (List.drop 2 l)) then K (AV.tup [TV.agg [SV.int .i64 0,SV.int .i64 0,SV.int .i64 0,SV.int .i64 0,SV.int .i64 0,SV.int .i64 0,SV.int .i64 0,SV.int .i64 0],.one (.int .i64 10)]) [] else bif decide ((↑(unpL (readV 5 0 (List.drop 2 l)).toNat 8 (List.drop 5 (List.drop 2 l))).length:Int)>0) then K (AV.tup [TV.agg [SV.int .i64 0,SV.int .i64 0,SV.int .i64 0,SV.int .i64 0,SV.int .i64 0,SV.int .i64 0,SV.int .i64 0,SV.int .i64 0],.one (.int .i64 10)]) [] else bif (bif [(unpX (readV 2 0 l) (readV 5 0 (List.drop 2 l)).toNat 8 0 0 (List.drop 5 (List.drop 2 l))).getD 0 0,(unpX (readV 2 0 l) (readV 5 0 (List.drop 2 l)).toNat 8 0 0 (List.drop 5 (List.drop 2 l))).getD 1 0,(unpX (readV 2 0 l) (readV 5 0 (List.drop 2 l)).toNat 8 0 0 (List.drop 5 (List.drop 2 l))).getD 2 0,(unpX (readV 2 0 l) (readV 5 0 (List.drop 2 l)).toNat 8 0 0 (List.drop 5 (List.drop 2 l))).getD 3 0,(unpX (readV 2 0 l) (readV 5 0 (List.drop 2 l)).toNat 8 0 0 (List.drop 5 (List.drop 2 l))).getD 4 0,(unpX (readV 2 0 l) (readV 5 0 (List.drop 2 l)).toNat 8 0 0 (List.drop 5 (List.drop 2 l))).getD 5 0,(unpX (readV 2 0 l) (readV 5 0 (List.drop 2 l)).toNat 8 0 0 (List.drop 5 (List.drop 2 l))).getD 6 0,(unpX (readV 2 0 l) (readV 5 0 (List.drop 2 l)).toNat 8 0 0 (List.drop 5 (List.drop 2 l))).getD 7 0].all sampleG then(0:Int) else(2:Int))!=0 then K (AV.tup [TV.agg [SV.int .i64 0,SV.int .i64 0,SV.int .i64 0,SV.int .i64 0,SV.int .i64 0,SV.int .i64 0,SV.int .i64 0,SV.int .i64 0],.one (.int .i64 (bif [(unpX (readV 2 0 l) (readV 5 0 (List.drop 2 l)).toNat 8 0 0 (List.drop 5 (List.drop 2 l))).getD 0 0,(unpX (readV 2 0 l) (readV 5 0 (List.drop 2 l)).toNat 8 0 0 (List.drop 5 (List.drop 2 l))).getD 1 0,(unpX (readV 2 0 l) (readV 5 0 (List.drop 2 l)).toNat 8 0 0 (List.drop 5 (List.drop 2 l))).getD 2 0,(unpX (readV 2 0 l) (readV 5 0 (List.drop 2 l)).toNat 8 0 0 (List.drop 5 (List.drop 2 l))).getD 3 0,(unpX (readV 2 0 l) (readV 5 0 (List.drop 2 l)).toNat 8 0 0 (List.drop 5 (List.drop 2 l))).getD 4 0,(unpX (readV 2 0 l) (readV 5 0 (List.drop 2 l)).toNat 8 0 0 (List.drop 5 (List.drop 2 l))).getD 5 0,(unpX (readV 2 0 l) (readV 5 0 (List.drop 2 l)).toNat 8 0 0 (List.drop 5 (List.drop 2 l))).getD 6 0,(unpX (readV 2 0 l) (readV 5 0 (List.drop 2 l)).toNat 8 0 0 (List.drop 5 (List.drop 2 l))).getD 7 0].all sampleG then(0:Int) else(2:Int)))]) [] else K (AV.tup [TV.agg [SV.int .i64 ((unpX (readV 2 0 l) (readV 5 0 (List.drop 2 l)).toNat 8 0 0 (List.drop 5 (List.drop 2 l))).getD 0 0),SV.int .i64 ((unpX (readV 2 0 l) (readV 5 0 (List.drop 2 l)).toNat 8 0 0 (List.drop 5 (List.drop 2 l))).getD 1 0),SV.int .i64 ((unpX (readV 2 0 l) (readV 5 0 (List.drop 2 l)).toNat 8 0 0 (List.drop 5 (List.drop 2 l))).getD 2 0),SV.int .i64 ((unpX (readV 2 0 l) (readV 5 0 (List.drop 2 l)).toNat 8 0 0 (List.drop 5 (List.drop 2 l))).getD 3 0),SV.int .i64 ((unpX (readV 2 0 l) (readV 5 0 (List.drop 2 l)).toNat 8 0 0 (List.drop 5 (List.drop 2 l))).getD 4 0),SV.int .i64 ((unpX (readV 2 0 l) (readV 5 0 (List.drop 2 l)).toNat 8 0 0 (List.drop 5 (List.drop 2 l))).getD 5 0),SV.int .i64 ((unpX (readV 2 0 l) (readV 5 0 (List.drop 2 l)).toNat 8 0 0 (List.drop 5 (List.drop 2 l))).getD 6 0),SV.int .i64 ((unpX (readV 2 0 l) (readV 5 0 (List.drop 2 l)).toNat 8 0 0 (List.drop 5 (List.drop 2 l))).getD 7 0)],.one (.int .i64 0)]) []):=by kernel_rfl
theorem ex47a(p c last bef i:Int)(z l x:List Int)(e:Bool)(K:Ex→List AV→List Blk→Prop):evBody E47 (lb Tryz.f23 0) [2,6,7,8,9,10,11,49] [2,6,9] [.one (.ptr 0 1 0 0),.one (.ptr 1 1 0 0),.one (.int .i64 p),.one (.int .i64 c),.one (.ptr 2 1 0 0),.one (.int .i64 last),.one (.int .i64 bef),.one (.int .i64 i)] [.row 22 (.ints .i64 z),.cells [.data (.ints .i64 l),.bool e],.row 119 (.ints .i64 x)] K=(bif decide (i<8) then(0≤c∧c≤60∧l.length≤100000000)∧bif (codeV c.toNat l).tmod (2:Int)==(1:Int) then bif decide (0≤i)&&decide (i<8) then bif decide (0+i.toNat+0<x.length) then bif decide (0≤i)&&decide (i<8) then bif decide (0+i.toNat+0<(x.set (0+i.toNat+0) (IntKind.i64.wrap (expG p last bef+IntKind.i64.wrap (IntKind.i64.wrap (0-IntKind.i64.wrap ((codeV c.toNat l).tdiv 2))-1)))).length) then K .normal [.one (.ptr 0 1 0 0),.one (.ptr 1 1 0 0),.one (.int .i64 p),.one (.int .i64 c),.one (.ptr 2 1 0 0),.one (.int .i64 ((x.set (0+i.toNat+0) (IntKind.i64.wrap (expG p last bef+IntKind.i64.wrap (IntKind.i64.wrap (0-IntKind.i64.wrap ((codeV c.toNat l).tdiv 2))-1)))).getD (0+i.toNat+0) 0)),.one (.int .i64 last),.one (.int .i64 (IntKind.i64.wrap (i+1)))] [Blk.row 22 (Row.ints .i64 z),Blk.cells [SV.data (Row.ints .i64 (List.drop (onesN l+1+c.toNat) l)),SV.bool (e||decide (l.length<onesN l+1+c.toNat))],Blk.row 119 (Row.ints .i64 (x.set (0+i.toNat+0) (IntKind.i64.wrap (expG p last bef+IntKind.i64.wrap (IntKind.i64.wrap (0-IntKind.i64.wrap ((codeV c.toNat l).tdiv 2))-1)))))] else False else False else False else False else bif decide (0≤i)&&decide (i<8) then bif decide (0+i.toNat+0<x.length) then bif decide (0≤i)&&decide (i<8) then bif decide (0+i.toNat+0<(x.set (0+i.toNat+0) (IntKind.i64.wrap (expG p last bef+IntKind.i64.wrap ((codeV c.toNat l).tdiv 2)))).length) then K .normal [.one (.ptr 0 1 0 0),.one (.ptr 1 1 0 0),.one (.int .i64 p),.one (.int .i64 c),.one (.ptr 2 1 0 0),.one (.int .i64 ((x.set (0+i.toNat+0) (IntKind.i64.wrap (expG p last bef+IntKind.i64.wrap ((codeV c.toNat l).tdiv 2)))).getD (0+i.toNat+0) 0)),.one (.int .i64 last),.one (.int .i64 (IntKind.i64.wrap (i+1)))] [Blk.row 22 (Row.ints .i64 z),Blk.cells [SV.data (Row.ints .i64 (List.drop (onesN l+1+c.toNat) l)),SV.bool (e||decide (l.length<onesN l+1+c.toNat))],Blk.row 119 (Row.ints .i64 (x.set (0+i.toNat+0) (IntKind.i64.wrap (expG p last bef+IntKind.i64.wrap ((codeV c.toNat l).tdiv 2)))))] else False else False else False else False else K (.exit 0) [.one (.ptr 0 1 0 0),.one (.ptr 1 1 0 0),.one (.ptr 2 1 0 0)] [Blk.row 22 (Row.ints .i64 z),Blk.cells [SV.data (Row.ints .i64 l),SV.bool e],Blk.row 119 (Row.ints .i64 x)]):=by kernel_rfl
end Go.Ev
