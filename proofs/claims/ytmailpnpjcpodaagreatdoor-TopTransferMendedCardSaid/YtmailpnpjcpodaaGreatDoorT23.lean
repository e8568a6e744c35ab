/-
  Part of the proof that TopTransferMended holds.
-/
import Derived.Test.YtmailpnpjcpodaaGreatDoorT22
set_option linter.unusedVariables false
set_option linter.unusedSimpArgs false
set_option linter.unusedSectionVars false
namespace Go.Ev
open Go Go.Proofs
attribute [local irreducible] evFn evBody
set_option maxRecDepth 20000
theorem lok135:LoopOK E135 (lb Tryz.f114 0) [0,1,7,8] [4] indexL:=by
 refine loopOK .nil (noInner (by kernel_rfl)) (fun vs _=>match vs with
  |[.one (.data (.ints .i64 l)),_,_,.one (.int .i64 i)]=>l.length-i.toNat
  |_=>0) fun vs σ k h=> ?_
 unfold indexL at h
 split at h
 ·rename_i l v n i
  rw[ex135a l v n i _]
  obtain⟨⟨h1,h2,rfl⟩,h⟩:=h
  by_cases hi:i<l.length
  ·have hw:IntKind.i64.wrap (i+1)=i+1:=wrap_id (by omega) (by omega)
   have hi':i.toNat<l.length:=by omega
   have hmu:l.length-(i+1).toNat<l.length-i.toNat:=by omega
   have e:idxOfI v i (l.drop i.toNat)=bif v==l.getD i.toNat 0 then i else idxOfI v (i+1) (l.drop (i+1).toNat):=by
    rw[drop_step 0 (by omega),show(i+1).toNat=i.toNat+1 by omega]
    rfl
   have e2:memB v (l.drop i.toNat)=(v==l.getD i.toNat 0||memB v (l.drop (i+1).toNat)):=any_step h2 hi
   rw[e2,e] at h
   simp only[hi,hi',h2,hw,Nat.add_zero,decide_true,Bool.and_self,cond_true]
   cases hs:v==l.getD i.toNat 0 with
   |false=>rw[hs] at h;exact⟨⟨⟨h1,by omega,rfl⟩,h⟩,hmu⟩
   |true=>rw[hs] at h;exact h
  ·rw[List.drop_eq_nil_of_le (by omega)] at h
   simp only[hi,decide_false,cond_false]
   exact h
 ·exact h.elim
theorem idxOf_none{v:Int}: ∀{l:List Int} {i:Int},memB v l=false→idxOfI v i l= -1
 |[],_,_=>rfl
 |b::l,i,h=>by
  simp only[memB,List.any_cons,Bool.or_eq_false_iff] at h
  simp only[idxOfI,h.1,cond_false]
  exact idxOf_none h.2
theorem idxOf_some{v:Int}: ∀{l:List Int} {i:Int},memB v l=true→i≤idxOfI v i l
 |[],_,h=>by simp[memB] at h
 |b::l,i,h=>by
  simp only[idxOfI]
  cases hb:v==b with
  |true=>exact Int.le_refl _
  |false=>
   simp only[memB,List.any_cons,hb,Bool.false_or] at h
   have:=idxOf_some (v:=v) (i:=i+1) h
   simp only[cond_false]
   omega
theorem ok135:SpecOK Tryz.prog 114 indexS:=by
 refine specOK (n:=19) (m:=0) (lps:=[(2,.spec [0,1,7,8] [4] indexL)]) .nil Tryz.func114 (by kernel_rfl) (by kernel_rfl) (theLoops (n:=1) (by kernel_rfl) fun i hi=> ?_) fun args σ K h=> ?_
 ·match i,hi with
  |0,_=>exact loopHyp_of (key:=2) (by kernel_rfl) rfl lok135
 ·unfold indexS at h
  split at h
  ·rename_i l v
   rw[ex135 l v K]
   obtain⟨h1,h⟩:=h
   refine⟨⟨h1,by omega,rfl⟩,?_⟩
   cases hs:memB v l with
   |true=>exact h
   |false=>rw[idxOf_none hs] at h;exact h
  ·exact h.elim
theorem ok113:SpecOK Tryz.prog 79 containsS:=by
 refine specOK (n:=9) (m:=0) (lps:=[]) (.cons ok135 .nil) Tryz.func79 (by kernel_rfl) (by kernel_rfl) (noLoops (by kernel_rfl)) fun args σ K h=> ?_
 unfold containsS at h
 split at h
 ·rename_i l v
  rw[ex113 l v K]
  have e:decide (idxOfI v 0 l≥0)=memB v l:=by
   cases hs:memB v l with
   |true=>exact decide_eq_true (idxOf_some hs)
   |false=>rw[idxOf_none hs];rfl
  rw[e]
  exact h
 ·exact h.elim
theorem facG_range(i j:Int):0≤facG i j∧facG i j<65537:=(inv_ref (modG_range (4+i-j))).2.2
theorem ok115:SpecOK Tryz.prog 81 factorS:=by
 refine specOK (n:=11) (m:=0) (lps:=[]) (.cons ok116 (.cons ok98 .nil)) Tryz.func81 (by kernel_rfl) (by kernel_rfl) (noLoops (by kernel_rfl)) fun args σ K h=> ?_
 unfold factorS at h
 split at h
 ·rename_i i j
  rw[ex115 i j K]
  obtain⟨h1,h⟩:=h
  rw[wrap_id (n:=4+i) (by omega) (by omega),wrap_id (by omega) (by omega)]
  exact⟨modG_range _,h⟩
 ·exact h.elim
theorem row_some{l:List (List Int)}{n:Nat}(h:n<l.length)(h8:l.all len8=true): ∃xs,l[n]? = some xs∧xs.length=8∧l.drop n=xs::l.drop (n+1)∧l.getD n []=xs:=by
 refine⟨l[n],List.getElem?_eq_getElem h,?_,List.drop_eq_getElem_cons h,by simp[List.getD,h]⟩
 have:=List.all_eq_true.1 h8 _ (List.getElem_mem h)
 unfold len8 at this
 simpa using this
theorem lok99:LoopOK E99 (lb Tryz.f75 0) [1,8,9,10] [4] each8L:=by
 refine loopOK (.cons ok82 .nil) (noInner (by kernel_rfl)) (fun vs _=>match vs with
  |[_,.one (.data (.mat .i64 8 l)),_,.one (.int .i64 i)]=>l.length-i.toNat
  |_=>0) fun vs σ k h=> ?_
 unfold each8L at h
 split at h
 ·rename_i l n i
  rw[ex99a l n i _]
  obtain⟨⟨h1,h2,rfl,h8⟩,h⟩:=h
  by_cases hi:i<l.length
  ·have hw:IntKind.i64.wrap (i+1)=i+1:=wrap_id (by omega) (by omega)
   have hi':i.toNat<l.length:=by omega
   have hmu:l.length-(i+1).toNat<l.length-i.toNat:=by omega
   obtain⟨xs,hxs,hx8,hd,_⟩:=row_some hi' h8
   rw[hd,List.all_cons,show i.toNat+1=(i+1).toNat by omega] at h
   simp only[hxs,list8 hx8]
   simp only[hi,hi',h2,hw,decide_true,Bool.and_self,cond_true,show decide (7<8)=true by decide]
   unfold okRow at h
   cases hs:xs.all sampleG with
   |true=>rw[hs] at h;exact⟨⟨⟨h1,by omega,rfl,h8⟩,h⟩,hmu⟩
   |false=>rw[hs] at h;exact h
  ·rw[List.drop_eq_nil_of_le (by omega)] at h
   simp only[hi,decide_false,cond_false]
   exact h
 ·exact h.elim
theorem ok99:SpecOK Tryz.prog 75 each8S:=by
 refine specOK (n:=21) (m:=0) (lps:=[(2,.spec [1,8,9,10] [4] each8L)]) (.cons ok82 .nil) Tryz.func75 (by kernel_rfl) (by kernel_rfl) (theLoops (n:=1) (by kernel_rfl) fun i hi=> ?_) fun args σ K h=> ?_
 ·match i,hi with
  |0,_=>exact loopHyp_of (key:=2) (by kernel_rfl) rfl lok99
 ·unfold each8S at h
  split at h
  ·rename_i l
   rw[ex99 l K]
   obtain⟨⟨h1,h8⟩,h⟩:=h
   refine⟨⟨h1,by omega,rfl,h8⟩,?_⟩
   cases hs:l.all okRow with
   |true=>rw[hs] at h;exact h
   |false=>rw[hs] at h;exact h
  ·exact h.elim
theorem kept_cons{ws:List Int}{i:Int}{xs:List Int}{l:List (List Int)}(h:keptB ws i (xs::l)=true):(memB i ws=true∨okRow xs=true)∧keptB ws (i+1) l=true:=by
 simp only[keptB,Bool.and_eq_true,Bool.or_eq_true] at h
 exact h
theorem okRow_get{xs:List Int}(h:okRow xs=true)(a:Nat): -32767≤xs.getD a 0∧xs.getD a 0≤32767:=by
 by_cases ha:a<xs.length
 ·rw[getD_of_lt ha];exact sample_range (List.all_eq_true.1 h _ (List.getElem_mem ha))
 ·rw[List.getD,List.getElem?_eq_none (by omega)];exact⟨by decide,by decide⟩
theorem parR_cons(ws:List Int)(j:Int)(a:Nat)(out i:Int)(xs:List Int)(l:List (List Int)):parR ws j a out i (xs::l)=parR ws j a (bif memB i ws then out else modG (out+modG (facG i j*modG (xs.getD a 0+32768)))) (i+1) l:=rfl
theorem lok100:LoopOK E100 (lb Tryz.f76 0) [1,2,3,9,12,13,14] [9] parityL:=by
 refine loopOK (.cons ok113 (.cons ok115 (.cons ok116 (.cons ok130 .nil)))) (noInner (by kernel_rfl)) (fun vs _=>match vs with
  |[_,_,_,_,.one (.data (.mat .i64 8 l)),_,.one (.int .i64 i)]=>l.length-i.toNat
  |_=>0) fun vs σ k h=> ?_
 unfold parityL at h
 split at h
 ·rename_i ws j a out xss n i
  rw[ex100a xss ws j a out n i _]
  obtain⟨⟨h1,h2,h3,h4,h5,h6,h7,rfl,h9,h10,h8,hk⟩,h⟩:=h
  by_cases hi:i<xss.length
  ·have hw:IntKind.i64.wrap (i+1)=i+1:=wrap_id (by omega) (by omega)
   have hi':i.toNat<xss.length:=by omega
   have hmu:xss.length-(i+1).toNat<xss.length-i.toNat:=by omega
   obtain⟨xs,hxs,hx8,hd,_⟩:=row_some hi' h8
   rw[hd] at hk
   obtain⟨hk1,hk2⟩:=kept_cons hk
   rw[hd,parR_cons,show i.toNat+1=(i+1).toNat by omega] at h
   rw[show i.toNat+1=(i+1).toNat by omega] at hk2
   simp only[hxs,list8 hx8]
   have ha7:a<8:=by omega
   have ha8:a.toNat<xs.length:=by omega
   have h1':ws.length≤1000000000:=by omega
   simp only[hi,hi',h5,ha7,ha8,h7,hw,Nat.zero_add,Nat.add_zero,decide_true,Bool.and_self,cond_true,show decide (7<8)=true by decide]
   refine⟨h1',?_⟩
   cases hm:memB i ws with
   |true=>
    rw[hm] at h
    exact⟨⟨⟨h1,h2,h3,h4,h5,h6,by omega,rfl,h9,h10,h8,hk2⟩,h⟩,hmu⟩
   |false=>
    rw[hm] at h hk1
    have hok:=hk1.resolve_left (by simp)
    have hg:=okRow_get hok a.toNat
    have hf:=facG_range i j
    have hv:=modG_range (xs.getD a.toNat 0+32768)
    have hv2:=modG_range (facG i j*modG (xs.getD a.toNat 0+32768))
    have hv3:=modG_range (out+modG (facG i j*modG (xs.getD a.toNat 0+32768)))
    simp only[Bool.not_false,cond_true]
    rw[wrap_id (n:=xs.getD a.toNat 0+32768) (by omega) (by omega),wrap_id (n:=out+modG (facG i j*modG (xs.getD a.toNat 0+32768))) (by omega) (by omega)]
    exact⟨⟨trivial,by omega,h3,h4⟩,⟨hf.1,hf.2,hv.1,hv.2⟩,⟨⟨h1,h2,h3,h4,h5,h6,by omega,rfl,hv3.1,hv3.2,h8,hk2⟩,h⟩,hmu⟩
  ·rw[List.drop_eq_nil_of_le (by omega)] at h
   simp only[hi,decide_false,cond_false]
   exact h
 ·exact h.elim
theorem ok100:SpecOK Tryz.prog 76 parityS:=by
 refine specOK (n:=37) (m:=0) (lps:=[(3,.spec [1,2,3,9,12,13,14] [9] parityL)]) (.cons ok113 (.cons ok115 (.cons ok116 (.cons ok130 .nil)))) Tryz.func76 (by kernel_rfl) (by kernel_rfl) (theLoops (n:=1) (by kernel_rfl) fun i hi=> ?_) fun args σ K h=> ?_
 ·match i,hi with
  |0,_=>exact loopHyp_of (key:=3) (by kernel_rfl) rfl lok100
 ·unfold parityS at h
  split at h
  ·rename_i xss ws j a
   rw[ex100 xss ws j a K]
   obtain⟨⟨h1,h2,h3,h4,h5,h6,h7,h8⟩,h⟩:=h
   exact⟨⟨h1,h2,h3,h4,h5,h6,by decide,rfl,by decide,by decide,h7,h8⟩,h⟩
  ·exact h.elim
theorem colsF_length(xss:List (List Int))(j:Int): ∀(c a:Nat),(colsF xss j a c).length=c
 |0,_=>rfl
 |c+1,a=>by simp[colsF,colsF_length xss j c]
theorem rowsF_length(xss:List (List Int)): ∀(c:Nat) (j:Int),(rowsF xss j c).length=c
 |0,_=>rfl
 |c+1,j=>by simp[rowsF,rowsF_length xss c]
theorem rowsF_len8(xss:List (List Int)): ∀(c:Nat) (j:Int),(rowsF xss j c).all len8=true
 |0,_=>rfl
 |c+1,j=>by simp[rowsF,rowsF_len8 xss c,len8,colsF_length]
theorem all_set{l:List (List Int)}{n:Nat}{x:List Int}(h:l.all len8=true)(hx:len8 x=true):(l.set n x).all len8=true:=by
 rw[List.all_eq_true] at h ⊢
 intro y hy
 rcases List.mem_or_eq_of_mem_set hy with hy|hy
 ·exact h y hy
 ·rw[hy];exact hx
theorem ok40L:AllOK Tryz.prog [(50,unlessS),(75,each8S),(46,withinS),(49,firstS),(76,parityS)]:= .cons ok70 (.cons ok99 (.cons ok71 (.cons ok69 (.cons ok100 .nil))))
theorem set_take{l:List Int}{a:Nat}{v:Int}{r:List Int}(h:a<l.length):(l.set a v).take (a+1)++r=l.take a++(v::r):=by
 rw[take_set_succ h,List.append_assoc]
 rfl
theorem lok40b:LoopOK E40 (lb Tryz.f25 1) [0,7,8,31,32,35] [0,7,31,32] par9L:=by
 refine loopOK ok40L (noInner (by kernel_rfl)) (fun vs _=>match vs with
  |[_,_,_,_,_,.one (.int .i64 a)]=>(8-a).toNat
  |_=>0) fun vs σ k h=> ?_
 unfold par9L at h
 split at h
 ·rename_i xss j n jj a out
  rw[ex40b xss out n j jj a _]
  obtain⟨⟨⟨d1,d2,d3⟩,h2,h3,h4,h5,h6,h8⟩,h⟩:=h
  have hj':j.toNat<out.length:=by omega
  obtain⟨xs,hxs,hx8,_,hg⟩:=row_some hj' h8
  simp only[hxs]
  rw[hg] at h
  by_cases hi:a<8
  ·have hw:IntKind.i64.wrap (a+1)=a+1:=wrap_id (by omega) (by omega)
   have e1:(8-a).toNat=(8-(a+1)).toNat+1:=by omega
   have hmu:(8-(a+1)).toNat<(8-a).toNat:=by omega
   have ha8:a.toNat<8:=by omega
   simp only[hi,h3,h4,h5,hj',ha8,hx8,hw,Nat.zero_add,decide_true,Bool.and_self,cond_true]
   have hl8:len8 (xs.set a.toNat (parR [] j a.toNat 0 0 xss))=true:=by unfold len8;rw[List.length_set,hx8];rfl
   have hset:=all_set (n:=j.toNat) h8 hl8
   refine⟨⟨Nat.zero_le _,d1,trivial,by omega,trivial,by omega,d2,d3⟩,⟨⟨⟨d1,d2,d3⟩,by rw[List.length_set];exact h2,h3,by rw[List.length_set];exact h4,by omega,by omega,hset⟩,?_⟩,hmu⟩
   have e2:((out.set j.toNat (xs.set a.toNat (parR [] j a.toNat 0 0 xss))).getD j.toNat [])=xs.set a.toNat (parR [] j a.toNat 0 0 xss):=by
    simp[List.getD,hj']
   rw[e1] at h
   rw[e2,List.set_set,show(a+1).toNat=a.toNat+1 by omega,set_take (by rw[hx8];exact ha8)]
   exact h
  ·have e:a=8:=by omega
   subst e
   simp only[Int.toNat_zero,show(8-8:Int).toNat=0 by decide,colsF,List.append_nil] at h
   rw[List.take_of_length_le (by rw[hx8];decide)] at h
   have e2:out.set j.toNat xs=out:=by
    have:=List.getElem?_eq_some_iff.1 hxs
    obtain⟨p,q⟩:=this
    rw[← q];exact List.set_getElem_self p
   rw[e2] at h
   exact h
 ·exact h.elim
theorem inner40: ∀b' ∈ loopsOf (lb Tryz.f25 0),LoopHyp E40 b':=by
 have hl:loopsOf (lb Tryz.f25 0)=[lb Tryz.f25 1]:=by kernel_rfl
 rw[hl]
 intro b' hb
 rw[List.mem_singleton] at hb
 subst hb
 exact loopHyp_of (key:=9) (by kernel_rfl) rfl lok40b
theorem lok40a:LoopOK E40 (lb Tryz.f25 0) [0,7,31,32] [7] par6L:=by
 refine loopOK ok40L inner40 (fun vs _=>match vs with
  |[_,_,.one (.int .i64 n),.one (.int .i64 j)]=>(n-j).toNat
  |_=>0) fun vs σ k h=> ?_
 unfold par6L at h
 split at h
 ·rename_i xss n j out
  rw[ex40a xss out n j _]
  obtain⟨⟨⟨d1,d2,d3⟩,rfl,h2,h3,h4,h8⟩,h⟩:=h
  by_cases hi:j<out.length
  ·have hw:IntKind.i64.wrap (j+1)=j+1:=wrap_id (by omega) (by omega)
   have hj':j.toNat<out.length:=by omega
   have e1:((out.length:Int)-j).toNat=((out.length:Int)-(j+1)).toNat+1:=by omega
   have hmu:((out.length:Int)-(j+1)).toNat<((out.length:Int)-j).toNat:=by omega
   have hl8:len8 (colsF xss j 0 8)=true:=by unfold len8;rw[colsF_length];rfl
   simp only[hi,decide_true,cond_true,hw]
   refine⟨⟨⟨d1,d2,d3⟩,h2,h3,trivial,by decide,by decide,h8⟩,⟨⟨⟨d1,d2,d3⟩,by rw[List.length_set],by rw[List.length_set];exact h2,by omega,by omega,all_set h8 hl8⟩,?_⟩,hmu⟩
   rw[e1] at h
   rw[show(j+1).toNat=j.toNat+1 by omega,take_set_succ hj',List.append_assoc]
   exact h
  ·have e:j=out.length:=by omega
   subst e
   simp only[Int.sub_self,Int.toNat_zero,rowsF,List.append_nil] at h
   rw[List.take_of_length_le (by omega)] at h
   simp only[hi,decide_false,cond_false]
   exact h
 ·exact h.elim
theorem kept_all{xss:List (List Int)}(h:xss.all okRow=true): ∀i,keptB [] i xss=true:=by
 induction xss with
 |nil=>intro i;rfl
 |cons xs l ih=>
  intro i
  simp only[List.all_cons,Bool.and_eq_true] at h
  simp only[keptB,h.1,ih h.2,Bool.or_true,Bool.and_self]
theorem dataE_ok{xss:List (List Int)}{c:Int}(h:(dataE xss c==0)=true):0<xss.length∧xss.length≤12∧xss.all okRow=true∧1≤c∧c≤4:=by
 unfold dataE at h
 cases h1:decide ((xss.length:Int)>0)<;>cases h2:decide ((xss.length:Int)≤12)<;>cases h3:xss.all okRow<;>cases h4:withinG c 1 4<;>rw[h1,h2,h3,h4] at h
 all_goals first|exact absurd h (by decide)|skip
 have h1:=of_decide_eq_true h1
 have h2:=of_decide_eq_true h2
 unfold withinG at h4
 simp only[Bool.and_eq_true,decide_eq_true_eq] at h4
 exact⟨by omega,by omega,rfl,h4.1,h4.2⟩
theorem ok40:SpecOK Tryz.prog 25 parityOfS:=by
 refine specOK (n:=50) (m:=0) (lps:=[(6,.spec [0,7,31,32] [7] par6L),(9,.spec [0,7,8,31,32,35] [0,7,31,32] par9L)]) ok40L Tryz.func25 (by kernel_rfl) (by kernel_rfl) (theLoops (n:=2) (by kernel_rfl) fun i hi=> ?_) fun args σ K h=> ?_
 ·match i,hi with
  |0,_=>exact loopHyp_of (key:=6) (by kernel_rfl) rfl lok40a
  |1,_=>exact loopHyp_of (key:=9) (by kernel_rfl) rfl lok40b
 ·unfold parityOfS at h
  split at h
  ·rename_i xss c
   rw[ex40 xss c K]
   obtain⟨⟨h1,h8⟩,h⟩:=h
   refine⟨⟨h1,h8⟩,(by decide:(4:Nat)≤1000),?_⟩
   have e:firstE [bif decide ((xss.length:Int)>0) then 0 else 10,bif decide ((xss.length:Int)≤12) then 0 else 8,bif xss.all okRow then 0 else 2,bif decide (1≤c)&&decide (c≤4) then 0 else 2]=dataE xss c:=rfl
   rw[e]
   cases hd:dataE xss c==0 with
   |false=>
    rw[hd] at h
    rw[show(dataE xss c != 0)=true by rw[bne,hd];rfl]
    exact h
   |true=>
    rw[hd] at h
    rw[show(dataE xss c != 0)=false by rw[bne,hd];rfl]
    obtain⟨g1,g2,g3,g4,g5⟩:=dataE_ok hd
    have g6:(0:Int)≤c:=by omega
    have g7:c*64≤140737488355328∧c≤140737488355328:=by omega
    simp only[cond_false,g6,g7,Int.le_refl,decide_true,Bool.and_self,cond_true,List.length_replicate,and_self]
    refine⟨⟨⟨by omega,h8,kept_all g3 0⟩,trivial,by omega,trivial,by omega,?_⟩,?_⟩
    ·rw[List.all_eq_true]
     intro y hy
     rw[(List.mem_replicate.1 hy).2]
     rfl
    ·rw[show((c.toNat:Int)-0).toNat=c.toNat by omega]
     exact h
  ·exact h.elim
theorem ok41:SpecOK Tryz.prog 26 copyDataS:=by
 refine specOK (n:=6) (m:=0) (lps:=[]) .nil Tryz.func26 (by kernel_rfl) (by kernel_rfl) (noLoops (by kernel_rfl)) fun args σ K h=> ?_
 unfold copyDataS at h
 split at h
 ·rename_i l
  rw[ex41 l K]
  obtain⟨h1,h⟩:=h
  rw[decide_eq_true (by omega),cond_true]
  exact h
 ·exact h.elim
end Go.Ev
namespace Go.Ev
open Go Go.Proofs
set_option maxRecDepth 20000
def lostF(c:Int):Int→List Int→Int
 |_,[]=>0
 |last,x::l=>bif withinG x 0 (c-1) then(bif decide (x>last) then lostF c x l else 9) else 6
def lstS:Spec:=fun args σ K=>match args,σ with
 |[.one (.int .i64 x),.one (.ptr 0 1 0 0),.one (.ptr 1 1 0 0)],[.cells [.int .i64 c],.cells [.int .i64 last]]=>(0≤c∧c≤1000000)∧K (.one (.int .i64 (bif withinG x 0 (c-1) then(bif decide (x>last) then 0 else 9) else 6))) [.cells [.int .i64 c],.cells [.int .i64 x]]
 |_,_=>False
def elsL:LSpec:=fun vs σ k=>match vs,σ with
 |[.one (.func 130 [0,1]),.one (.data (.ints .i64 l)),.one (.int .i64 n),.one (.int .i64 i)],[.cells [.int .i64 c],.cells [.int .i64 last]]=>(l.length≤1000000∧n=l.length∧0≤i∧0≤c∧c≤1000000)∧
   bif lostF c last (l.drop i.toNat)==0 then(∀y,k (.exit 0) [.any] [.cells [.int .i64 c],.cells [.int .i64 y]]) else(∀y,k .ret [.one (.int .i64 (lostF c last (l.drop i.toNat)))] [.cells [.int .i64 c],.cells [.int .i64 y]])
 |_,_=>False
def elsS:Spec:=fun args σ K=>match args,σ with
 |[.one (.data (.ints .i64 l)),.one (.func 130 [0,1])],[.cells [.int .i64 c],.cells [.int .i64 last]]=>(l.length≤1000000∧0≤c∧c≤1000000)∧ ∀y,K (.one (.int .i64 (lostF c last l))) [.cells [.int .i64 c],.cells [.int .i64 y]]
 |_,_=>False
def loeS:Spec:=fun args σ K=>match args,σ with
 |[.one (.data (.ints .i64 l)),.one (.int .i64 c)],[]=>(l.length≤1000000∧0≤c∧c≤1000000)∧K (.one (.int .i64 (lostF c (-1) l))) []
 |_,_=>False
def resG(n:Int):Bool:=withinG n 0 65536
def resRow(xs:List Int):Bool:=xs.all resG
def rsS:Spec:=fun args σ K=>match args,σ with
 |[.one (.int .i64 n)],[]=>K (.one (.int .i64 (bif resG n then 0 else 2))) []
 |_,_=>False
def ersL:LSpec:=fun vs σ k=>match vs,σ with
 |[.one (.func 111 []),.one (.data (.ints .i64 l)),.one (.int .i64 n),.one (.int .i64 i)],[]=>(l.length≤1000000∧n=l.length∧0≤i)∧bif (l.drop i.toNat).all resG then k (.exit 0) [.any] [] else k .ret [.one (.int .i64 2)] []
 |_,_=>False
def ersS:Spec:=fun args σ K=>match args,σ with
 |[.one (.data (.ints .i64 l)),.one (.func 111 [])],[]=>l.length≤1000000∧K (.one (.int .i64 (bif l.all resG then 0 else 2))) []
 |_,_=>False
def rsrS:Spec:=fun args σ K=>match args,σ with
 |[.agg [.int .i64 x0,.int .i64 x1,.int .i64 x2,.int .i64 x3,.int .i64 x4,.int .i64 x5,.int .i64 x6,.int .i64 x7]],[]=>K (.one (.int .i64 (bif resRow [x0,x1,x2,x3,x4,x5,x6,x7] then 0 else 2))) []
 |_,_=>False
def keptR(ws:List Int):Int→List (List Int)→Bool
 |_,[]=>true
 |i,xs::l=>(memB i ws||resRow xs)&&keptR ws (i+1) l
def kepL:LSpec:=fun vs σ k=>match vs,σ with
 |[.one (.data (.ints .i64 ws)),.one (.func 65 []),.one (.data (.mat .i64 8 l)),.one (.int .i64 n),.one (.int .i64 i)],[]=>(l.length≤1000000∧ws.length≤1000000∧n=l.length∧0≤i∧l.all len8=true)∧bif keptB ws i (l.drop i.toNat) then k (.exit 0) [.any] [] else k .ret [.one (.int .i64 2)] []
 |[.one (.data (.ints .i64 ws)),.one (.func 110 []),.one (.data (.mat .i64 8 l)),.one (.int .i64 n),.one (.int .i64 i)],[]=>(l.length≤1000000∧ws.length≤1000000∧n=l.length∧0≤i∧l.all len8=true)∧bif keptR ws i (l.drop i.toNat) then k (.exit 0) [.any] [] else k .ret [.one (.int .i64 2)] []
 |_,_=>False
def kepS:Spec:=fun args σ K=>match args,σ with
 |[.one (.data (.mat .i64 8 l)),.one (.data (.ints .i64 ws)),.one (.func 65 [])],[]=>(l.length≤1000000∧ws.length≤1000000∧l.all len8=true)∧K (.one (.int .i64 (bif keptB ws 0 l then 0 else 2))) []
 |[.one (.data (.mat .i64 8 l)),.one (.data (.ints .i64 ws)),.one (.func 110 [])],[]=>(l.length≤1000000∧ws.length≤1000000∧l.all len8=true)∧K (.one (.int .i64 (bif keptR ws 0 l then 0 else 2))) []
 |_,_=>False
def okG(D P:List (List Int))(L Q:List Int):Prop:=D.length≤1000∧P.length≤1000∧L.length≤1000∧Q.length≤1000∧D.all len8=true∧P.all len8=true
def groE(D P:List (List Int))(L Q:List Int):Int:=firstE [bif decide ((D.length:Int)>0)&&decide ((P.length:Int)>0) then 0 else 10,bif decide ((D.length:Int)≤12)&&decide ((P.length:Int)≤4) then 0 else 8,lostF D.length (-1) L,lostF P.length (-1) Q,bif keptB L 0 D then 0 else 2,bif keptR Q 0 P then 0 else 2]
def groS:Spec:=fun args σ K=>match args,σ with
 |[.agg [.data (.mat .i64 8 D),.data (.mat .i64 8 P),.data (.ints .i64 L),.data (.ints .i64 Q)]],[]=>okG D P L Q∧K (.one (.int .i64 (groE D P L Q))) []
 |_,_=>False
def cloS:Spec:=fun args σ K=>match args,σ with
 |[.one (.data (.mat .i64 8 l))],[]=>(0<l.length∧l.length≤1000000)∧K (.one (.own 0 8)) [.row 22 (.mat .i64 8 l)]
 |_,_=>False
def cgrS:Spec:=fun args σ K=>match args,σ with
 |[.agg [.data (.mat .i64 8 D),.data (.mat .i64 8 P),.data (.ints .i64 L),.data (.ints .i64 Q)]],[]=>okG D P L Q∧K (.agg [.own 0 8,.own 1 8,.own 2 1,.own 3 1]) [.row 22 (.mat .i64 8 D),.row 22 (.mat .i64 8 P),.row 3 (.ints .i64 L),.row 3 (.ints .i64 Q)]
 |_,_=>False
noncomputable abbrev Elst:Env:=envOf Tryz.prog [(46,withinS),(50,unlessS),(49,firstS)] [] 19 2
noncomputable abbrev Eels:Env:=envOf Tryz.prog [(130,lstS)] [(2,.spec [1,8,9,10] [4] elsL)] 21 2
noncomputable abbrev Eloe:Env:=envOf Tryz.prog [(59,elsS)] [] 9 0
noncomputable abbrev Ers:Env:=envOf Tryz.prog [(86,residueS),(50,unlessS)] [] 6 0
noncomputable abbrev Eers:Env:=envOf Tryz.prog [(111,rsS)] [(2,.spec [1,8,9,10] [4] ersL)] 21 0
noncomputable abbrev Ersr:Env:=envOf Tryz.prog [(59,ersS)] [] 5 0
noncomputable abbrev Ekep:Env:=envOf Tryz.prog [(79,containsS),(65,samplesS),(110,rsrS)] [(2,.spec [1,2,10,11,12] [6] kepL)] 27 0
noncomputable abbrev Egro:Env:=envOf Tryz.prog [(50,unlessS),(112,loeS),(113,kepS),(49,firstS)] [] 51 0
noncomputable abbrev Eclo:Env:=envOf Tryz.prog [] [] 8 0
noncomputable abbrev Ecgr:Env:=envOf Tryz.prog [(26,copyDataS),(21,copyIntsS)] [] 16 0
end Go.Ev
namespace Go.Ev
open Go Go.Proofs
set_option maxRecDepth 100000
theorem exlst(x c last:Int)(K:AV→List Blk→Prop):evFn Elst Tryz.f130 [.one (.int .i64 x),.one (.ptr 0 1 0 0),.one (.ptr 1 1 0 0)] [.cells [.int .i64 c],.cells [.int .i64 last]] K=([bif decide (0≤x)&&decide (x≤IntKind.i64.wrap (c-1)) then(0:Int) else(6:Int),bif decide (x>last) then(0:Int) else(9:Int)].length≤1000∧K (.one (.int .i64 (firstE [bif decide (0≤x)&&decide (x≤IntKind.i64.wrap (c-1)) then(0:Int) else(6:Int),bif decide (x>last) then(0:Int) else(9:Int)]))) [Blk.cells [SV.int .i64 c],Blk.cells [SV.int .i64 x]]):=by kernel_rfl
theorem exels(l:List Int)(c last:Int)(K:AV→List Blk→Prop):evFn Eels Tryz.f59 [.one (.data (.ints .i64 l)),.one (.func 130 [0,1])] [.cells [.int .i64 c],.cells [.int .i64 last]] K=((l.length≤1000000∧(↑l.length:Int)=(↑l.length:Int)∧(0:Int)≤(0:Int)∧0≤c∧c≤1000000)∧bif lostF c last l==0 then ∀(y:Int),K (.one (.int .i64 0)) [Blk.cells [SV.int .i64 c],Blk.cells [SV.int .i64 y]] else ∀(y:Int),K (.one (.int .i64 (lostF c last l))) [Blk.cells [SV.int .i64 c],Blk.cells [SV.int .i64 y]]):=by kernel_rfl
theorem exelsl0a(l:List Int)(n i c last:Int)(K:Ex→List AV→List Blk→Prop):evBody Eels (lb Tryz.f59 0) [1,8,9,10] [4] [.one (.func 130 [0,1]),.one (.data (.ints .i64 l)),.one (.int .i64 n),.one (.int .i64 i)] [.cells [.int .i64 c],.cells [.int .i64 last]] K=(bif decide (i<n) then bif decide (0≤i)&&decide (i<(↑l.length:Int)) then bif decide (i.toNat+0<l.length) then(0≤c∧c≤1000000)∧bif (bif withinG (l.getD (i.toNat+0) 0) 0 (c-1) then bif decide (l.getD (i.toNat+0) 0>last) then(0:Int) else(9:Int) else(6:Int))!=0 then K .ret [.one (.int .i64 (bif withinG (l.getD (i.toNat+0) 0) 0 (c-1) then bif decide (l.getD (i.toNat+0) 0>last) then(0:Int) else(9:Int) else(6:Int)))] [Blk.cells [SV.int .i64 c],Blk.cells [SV.int .i64 (l.getD (i.toNat+0) 0)]] else K .normal [.one (.func (130:FuncId) [0,1]),.one (.data (Row.ints .i64 l)),.one (.int .i64 n),.one (.int .i64 (IntKind.i64.wrap (i+1)))] [Blk.cells [SV.int .i64 c],Blk.cells [SV.int .i64 (l.getD (i.toNat+0) 0)]] else False else False else K (.exit 0) [AV.any] [Blk.cells [SV.int .i64 c],Blk.cells [SV.int .i64 last]]):=by kernel_rfl
theorem exloe(l:List Int)(c:Int)(K:AV→List Blk→Prop):evFn Eloe Tryz.f112 [.one (.data (.ints .i64 l)),.one (.int .i64 c)] [] K=((l.length≤1000000∧0≤c∧c≤1000000)∧ ∀(y:Int),K (.one (.int .i64 (lostF c (-1:Int) l))) []):=by kernel_rfl
theorem exrs(n:Int)(K:AV→List Blk→Prop):evFn Ers Tryz.f111 [.one (.int .i64 n)] [] K=(K (.one (.int .i64 (bif withinG n 0 65536 then(0:Int) else(2:Int)))) []):=by kernel_rfl
theorem exers(l:List Int)(K:AV→List Blk→Prop):evFn Eers Tryz.f59 [.one (.data (.ints .i64 l)),.one (.func 111 [])] [] K=((l.length≤1000000∧(↑l.length:Int)=(↑l.length:Int)∧(0:Int)≤(0:Int))∧bif l.all resG then K (.one (.int .i64 0)) [] else K (.one (.int .i64 2)) []):=by kernel_rfl
theorem exersl0a(l:List Int)(n i:Int)(K:Ex→List AV→List Blk→Prop):evBody Eers (lb Tryz.f59 0) [1,8,9,10] [4] [.one (.func 111 []),.one (.data (.ints .i64 l)),.one (.int .i64 n),.one (.int .i64 i)] [] K=(bif decide (i<n) then bif decide (0≤i)&&decide (i<(↑l.length:Int)) then bif decide (i.toNat+0<l.length) then bif (bif resG (l.getD (i.toNat+0) 0) then(0:Int) else(2:Int))!=0 then K .ret [.one (.int .i64 (bif resG (l.getD (i.toNat+0) 0) then(0:Int) else(2:Int)))] [] else K .normal [.one (.func (111:FuncId) []),.one (.data (Row.ints .i64 l)),.one (.int .i64 n),.one (.int .i64 (IntKind.i64.wrap (i+1)))] [] else False else False else K (.exit 0) [AV.any] []):=by kernel_rfl
theorem exrsr(x0 x1 x2 x3 x4 x5 x6 x7:Int)(K:AV→List Blk→Prop):evFn Ersr Tryz.f110 [.agg [.int .i64 x0,.int .i64 x1,.int .i64 x2,.int .i64 x3,.int .i64 x4,.int .i64 x5,.int .i64 x6,.int .i64 x7]] [] K=([x0,x1,x2,x3,x4,x5,x6,x7].length≤1000000∧K (.one (.int .i64 (bif [x0,x1,x2,x3,x4,x5,x6,x7].all resG then(0:Int) else(2:Int)))) []):=by kernel_rfl
theorem exkep_0(l:List (List Int))(ws:List Int)(K:AV→List Blk→Prop):evFn Ekep Tryz.f113 [.one (.data (.mat .i64 8 l)),.one (.data (.ints .i64 ws)),.one (.func 65 [])] [] K=((l.length≤1000000∧ws.length≤1000000∧(↑l.length:Int)=(↑l.length:Int)∧(0:Int)≤(0:Int)∧l.all len8=true)∧bif keptB ws 0 l then K (.one (.int .i64 0)) [] else K (.one (.int .i64 2)) []):=by kernel_rfl
theorem exkep_1(l:List (List Int))(ws:List Int)(K:AV→List Blk→Prop):evFn Ekep Tryz.f113 [.one (.data (.mat .i64 8 l)),.one (.data (.ints .i64 ws)),.one (.func 110 [])] [] K=((l.length≤1000000∧ws.length≤1000000∧(↑l.length:Int)=(↑l.length:Int)∧(0:Int)≤(0:Int)∧l.all len8=true)∧bif keptR ws 0 l then K (.one (.int .i64 0)) [] else K (.one (.int .i64 2)) []):=by kernel_rfl
theorem exkepl0a(ws:List Int)(l:List (List Int))(n i:Int)(K:Ex→List AV→List Blk→Prop):evBody Ekep (lb Tryz.f113 0) [1,2,10,11,12] [6] [.one (.data (.ints .i64 ws)),.one (.func 65 []),.one (.data (.mat .i64 8 l)),.one (.int .i64 n),.one (.int .i64 i)] [] K=(bif decide (i<n) then bif decide (0≤i)&&decide (i<(↑l.length:Int)) then bif decide (7<8)&&decide (i.toNat<l.length) then ws.length≤1000000000∧bif memB i ws then K .normal [.one (.data (Row.ints .i64 ws)),.one (.func (65:FuncId) []),.one (.data (Row.mat .i64 8 l)),.one (.int .i64 n),.one (.int .i64 (IntKind.i64.wrap (i+1)))] [] else bif (bif [(l.getD i.toNat []).getD 0 0,(l.getD i.toNat []).getD 1 0,(l.getD i.toNat []).getD 2 0,(l.getD i.toNat []).getD 3 0,(l.getD i.toNat []).getD 4 0,(l.getD i.toNat []).getD 5 0,(l.getD i.toNat []).getD 6 0,(l.getD i.toNat []).getD 7 0].all sampleG then(0:Int) else(2:Int))!=0 then K .ret [.one (.int .i64 (bif [(l.getD i.toNat []).getD 0 0,(l.getD i.toNat []).getD 1 0,(l.getD i.toNat []).getD 2 0,(l.getD i.toNat []).getD 3 0,(l.getD i.toNat []).getD 4 0,(l.getD i.toNat []).getD 5 0,(l.getD i.toNat []).getD 6 0,(l.getD i.toNat []).getD 7 0].all sampleG then(0:Int) else(2:Int)))] [] else K .normal [.one (.data (Row.ints .i64 ws)),.one (.func (65:FuncId) []),.one (.data (Row.mat .i64 8 l)),.one (.int .i64 n),.one (.int .i64 (IntKind.i64.wrap (i+1)))] [] else False else False else K (.exit 0) [AV.any] []):=by kernel_rfl
theorem exkepl0b(ws:List Int)(l:List (List Int))(n i:Int)(K:Ex→List AV→List Blk→Prop):evBody Ekep (lb Tryz.f113 0) [1,2,10,11,12] [6] [.one (.data (.ints .i64 ws)),.one (.func 110 []),.one (.data (.mat .i64 8 l)),.one (.int .i64 n),.one (.int .i64 i)] [] K=(bif decide (i<n) then bif decide (0≤i)&&decide (i<(↑l.length:Int)) then bif decide (7<8)&&decide (i.toNat<l.length) then ws.length≤1000000000∧bif memB i ws then K .normal [.one (.data (Row.ints .i64 ws)),.one (.func (110:FuncId) []),.one (.data (Row.mat .i64 8 l)),.one (.int .i64 n),.one (.int .i64 (IntKind.i64.wrap (i+1)))] [] else bif (bif resRow [(l.getD i.toNat []).getD 0 0,(l.getD i.toNat []).getD 1 0,(l.getD i.toNat []).getD 2 0,(l.getD i.toNat []).getD 3 0,(l.getD i.toNat []).getD 4 0,(l.getD i.toNat []).getD 5 0,(l.getD i.toNat []).getD 6 0,(l.getD i.toNat []).getD 7 0] then(0:Int) else(2:Int))!=0 then K .ret [.one (.int .i64 (bif resRow [(l.getD i.toNat []).getD 0 0,(l.getD i.toNat []).getD 1 0,(l.getD i.toNat []).getD 2 0,(l.getD i.toNat []).getD 3 0,(l.getD i.toNat []).getD 4 0,(l.getD i.toNat []).getD 5 0,(l.getD i.toNat []).getD 6 0,(l.getD i.toNat []).getD 7 0] then(0:Int) else(2:Int)))] [] else K .normal [.one (.data (Row.ints .i64 ws)),.one (.func (110:FuncId) []),.one (.data (Row.mat .i64 8 l)),.one (.int .i64 n),.one (.int .i64 (IntKind.i64.wrap (i+1)))] [] else False else False else K (.exit 0) [AV.any] []):=by kernel_rfl
theorem exgro(D P:List (List Int))(L Q:List Int)(K:AV→List Blk→Prop):evFn Egro Tryz.f78 [.agg [.data (.mat .i64 8 D),.data (.mat .i64 8 P),.data (.ints .i64 L),.data (.ints .i64 Q)]] [] K=(bif decide ((↑D.length:Int)>0) then bif decide ((↑D.length:Int)≤12) then(L.length≤1000000∧0≤(↑D.length:Int)∧(↑D.length:Int)≤1000000)∧(Q.length≤1000000∧0≤(↑P.length:Int)∧(↑P.length:Int)≤1000000)∧(D.length≤1000000∧L.length≤1000000∧D.all len8=true)∧(P.length≤1000000∧Q.length≤1000000∧P.all len8=true)∧[bif decide ((↑P.length:Int)>0) then(0:Int) else(10:Int),bif decide ((↑P.length:Int)≤4) then(0:Int) else(8:Int),lostF (↑D.length:Int) (-1:Int) L,lostF (↑P.length:Int) (-1:Int) Q,bif keptB L 0 D then(0:Int) else(2:Int),bif keptR Q 0 P then(0:Int) else(2:Int)].length≤1000∧K (.one (.int .i64 (firstE [bif decide ((↑P.length:Int)>0) then(0:Int) else(10:Int),bif decide ((↑P.length:Int)≤4) then(0:Int) else(8:Int),lostF (↑D.length:Int) (-1:Int) L,lostF (↑P.length:Int) (-1:Int) Q,bif keptB L 0 D then(0:Int) else(2:Int),bif keptR Q 0 P then(0:Int) else(2:Int)]))) [] else(L.length≤1000000∧0≤(↑D.length:Int)∧(↑D.length:Int)≤1000000)∧(Q.length≤1000000∧0≤(↑P.length:Int)∧(↑P.length:Int)≤1000000)∧(D.length≤1000000∧L.length≤1000000∧D.all len8=true)∧(P.length≤1000000∧Q.length≤1000000∧P.all len8=true)∧[bif decide ((↑P.length:Int)>0) then(0:Int) else(10:Int),8,lostF (↑D.length:Int) (-1:Int) L,lostF (↑P.length:Int) (-1:Int) Q,bif keptB L 0 D then(0:Int) else(2:Int),bif keptR Q 0 P then(0:Int) else(2:Int)].length≤1000∧K (.one (.int .i64 (firstE [bif decide ((↑P.length:Int)>0) then(0:Int) else(10:Int),8,lostF (↑D.length:Int) (-1:Int) L,lostF (↑P.length:Int) (-1:Int) Q,bif keptB L 0 D then(0:Int) else(2:Int),bif keptR Q 0 P then(0:Int) else(2:Int)]))) [] else bif decide ((↑D.length:Int)≤12) then(L.length≤1000000∧0≤(↑D.length:Int)∧(↑D.length:Int)≤1000000)∧(Q.length≤1000000∧0≤(↑P.length:Int)∧(↑P.length:Int)≤1000000)∧(D.length≤1000000∧L.length≤1000000∧D.all len8=true)∧(P.length≤1000000∧Q.length≤1000000∧P.all len8=true)∧[10,bif decide ((↑P.length:Int)≤4) then(0:Int) else(8:Int),lostF (↑D.length:Int) (-1:Int) L,lostF (↑P.length:Int) (-1:Int) Q,bif keptB L 0 D then(0:Int) else(2:Int),bif keptR Q 0 P then(0:Int) else(2:Int)].length≤1000∧K (.one (.int .i64 (firstE [10,bif decide ((↑P.length:Int)≤4) then(0:Int) else(8:Int),lostF (↑D.length:Int) (-1:Int) L,lostF (↑P.length:Int) (-1:Int) Q,bif keptB L 0 D then(0:Int) else(2:Int),bif keptR Q 0 P then(0:Int) else(2:Int)]))) [] else(L.length≤1000000∧0≤(↑D.length:Int)∧(↑D.length:Int)≤1000000)∧(Q.length≤1000000∧0≤(↑P.length:Int)∧(↑P.length:Int)≤1000000)∧(D.length≤1000000∧L.length≤1000000∧D.all len8=true)∧(P.length≤1000000∧Q.length≤1000000∧P.all len8=true)∧[10,8,lostF (↑D.length:Int) (-1:Int) L,lostF (↑P.length:Int) (-1:Int) Q,bif keptB L 0 D then(0:Int) else(2:Int),bif keptR Q 0 P then(0:Int) else(2:Int)].length≤1000∧K (.one (.int .i64 (firstE [10,8,lostF (↑D.length:Int) (-1:Int) L,lostF (↑P.length:Int) (-1:Int) Q,bif keptB L 0 D then(0:Int) else(2:Int),bif keptR Q 0 P then(0:Int) else(2:Int)]))) []):=by kernel_rfl
def exclo_x0(l:List (List Int))(K:AV→List Blk→Prop):Prop:=(bif decide (l.length*(64:Nat)≤(140737488355328:Nat)∧l.length≤(140737488355328:Nat)) then K (AV.one (SV.own (0:Nat) (8:Nat))) [Blk.row (22:Nat) (Row.mat IntKind.i64 (8:Nat) l)] else False)
theorem exclo(l:List (List Int))(K:AV→List Blk→Prop):evFn Eclo Tryz.f80 [.one (.data (.mat .i64 8 l))] [] K=(bif decide (l.length=0) then K (.one .nil) []∧exclo_x0 l K else exclo_x0 l K):=by kernel_rfl
theorem excgr(D P:List (List Int))(L Q:List Int)(K:AV→List Blk→Prop):evFn Ecgr Tryz.f31 [.agg [.data (.mat .i64 8 D),.data (.mat .i64 8 P),.data (.ints .i64 L),.data (.ints .i64 Q)]] [] K=(D.length≤1000000∧P.length≤1000000∧L.length≤1000000000000∧Q.length≤1000000000000∧K (AV.agg [SV.own 0 8,SV.own 1 8,SV.own 2 1,SV.own 3 1]) [Blk.row 22 (Row.mat .i64 8 D),Blk.row 22 (Row.mat .i64 8 P),Blk.row 3 (Row.ints .i64 L),Blk.row 3 (Row.ints .i64 Q)]):=by kernel_rfl
end Go.Ev
