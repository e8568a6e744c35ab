/-
  Part of the proof that TopTransferMended holds.
-/
import Derived.Test.YtmailpnpjcpodaaGreatDoorT19
set_option linter.unusedVariables false
set_option linter.unusedSimpArgs false
set_option linter.unusedSectionVars false
namespace Go.Ev
open Go Go.Proofs
set_option maxRecDepth 100000
theorem ex128(l:List Int)(n:Int)(P:Program)(J:GJ)(D:Nat→Prop)(L:List (List AV))(K:AV→List Blk→Prop):evFn E128 Tryz.f103 [.one (.yld 0),.one (.ptr 1 1 0 0),.one (.ptr 2 1 0 0)] [.ghost P J D (some L),.cells [.data (.ints .i64 l)],.cells [.int .i64 n]] K=((P=Tryz.prog∧n=8∧l.length≤1000000∧(0:Int)≤(0:Int)∧0≤(↑l.length:Int)+8∧L=chunkI l)∧ ∀(D':Nat→Prop),K (AV.tup []) [Blk.ghost P J D' (some []),Blk.cells [SV.data (Row.ints .i64 l)],Blk.cells [SV.int .i64 n]]∧K (AV.tup []) [Blk.ghost P J D' none,Blk.cells [SV.data (Row.ints .i64 l)],Blk.cells [SV.int .i64 n]]):=by kernel_rfl
theorem ex128a(l:List Int)(n i:Int)(P:Program)(J:GJ)(D:Nat→Prop)(L:List (List AV))(K:Ex→List AV→List Blk→Prop):evBody E128 (lb Tryz.f103 0) [0,1,2,4] [] [.one (.yld 0),.one (.ptr 1 1 0 0),.one (.ptr 2 1 0 0),.one (.int .i64 i)] [.ghost P J D (some L),.cells [.data (.ints .i64 l)],.cells [.int .i64 n]] K=(bif decide (i<(↑l.length:Int)) then bif decide (0≤i)&&(decide (l.length≤l.length)&&decide (i.toNat≤l.length)) then bif decide (0≤i)&&(decide (0≤IntKind.i64.wrap (i+if(↑(List.take (l.length-i.toNat) (List.drop i.toNat l)).length:Int)<n then(↑(List.take (l.length-i.toNat) (List.drop i.toNat l)).length:Int) else n))&&(decide (0≤IntKind.i64.wrap (i+if(↑(List.take (l.length-i.toNat) (List.drop i.toNat l)).length:Int)<n then(↑(List.take (l.length-i.toNat) (List.drop i.toNat l)).length:Int) else n))&&(decide ((IntKind.i64.wrap (i+if(↑(List.take (l.length-i.toNat) (List.drop i.toNat l)).length:Int)<n then(↑(List.take (l.length-i.toNat) (List.drop i.toNat l)).length:Int) else n)).toNat≤(IntKind.i64.wrap (i+if(↑(List.take (l.length-i.toNat) (List.drop i.toNat l)).length:Int)<n then(↑(List.take (l.length-i.toNat) (List.drop i.toNat l)).length:Int) else n)).toNat)&&(decide ((IntKind.i64.wrap (i+if(↑(List.take (l.length-i.toNat) (List.drop i.toNat l)).length:Int)<n then(↑(List.take (l.length-i.toNat) (List.drop i.toNat l)).length:Int) else n)).toNat≤l.length)&&decide (i.toNat≤(IntKind.i64.wrap (i+if(↑(List.take (l.length-i.toNat) (List.drop i.toNat l)).length:Int)<n then(↑(List.take (l.length-i.toNat) (List.drop i.toNat l)).length:Int) else n)).toNat))))) then P=E128.P∧(L=[.one (.data (Row.ints .i64 (List.take ((IntKind.i64.wrap (i+if(↑(List.take (l.length-i.toNat) (List.drop i.toNat l)).length:Int)<n then(↑(List.take (l.length-i.toNat) (List.drop i.toNat l)).length:Int) else n)).toNat-i.toNat) (List.drop i.toNat l))))]::match L with|[]=>[]|head :: tl0 => tl0)∧ ∀(D':Nat→Prop),K .normal [.one (.yld 0),.one (.ptr 1 1 0 0),.one (.ptr 2 1 0 0),.one (.int .i64 (IntKind.i64.wrap (i+n)))] [Blk.ghost P J D' (some (match L with|[]=>[]|head :: tl0 => tl0)),Blk.cells [SV.data (Row.ints .i64 l)],Blk.cells [SV.int .i64 n]]∧K .ret [] [Blk.ghost P J D' none,Blk.cells [SV.data (Row.ints .i64 l)],Blk.cells [SV.int .i64 n]] else False else False else K (.exit 0) [] [Blk.ghost P J D (some L),Blk.cells [SV.data (Row.ints .i64 l)],Blk.cells [SV.int .i64 n]]):=by kernel_rfl
theorem ex95(l:List Int)(n:Int)(K:AV→List Blk→Prop):evFn E95 Tryz.f63 [.one (.data (.ints .i64 l)),.one (.int .i64 n)] [] K=(bif decide (n<1) then False else K (.one (.func 103 [0,1])) [Blk.cells [SV.data (Row.ints .i64 l)],Blk.cells [SV.int .i64 n]]):=by kernel_rfl
theorem ex140(n b:Int)(K:AV→List Blk→Prop):evFn E140 Tryz.f125 [.one (.int .i64 n),.one (.int .i64 b)] [] K=(bif !decide (b=0) then bif !decide (b=0) then bif decide (n.tmod b<0) then K (.one (.int .i64 (IntKind.i64.wrap (IntKind.i64.wrap (n.tdiv b)-1)))) [] else K (.one (.int .i64 (IntKind.i64.wrap (n.tdiv b)))) [] else False else False):=by kernel_rfl
theorem ex129(n b:Int)(K:AV→List Blk→Prop):evFn E129 Tryz.f101 [.one (.int .i64 n),.one (.int .i64 b)] [] K=((b=8∧(-1000000000:Int)≤IntKind.i64.wrap (0-n)∧IntKind.i64.wrap (0-n)≤1000000000)∧K (.one (.int .i64 (IntKind.i64.wrap (0-IntKind.i64.wrap (0-n)/8)))) []):=by kernel_rfl
theorem ex96(l:List Int)(K:AV→List Blk→Prop):evFn E96 Tryz.f56 [.one (.data (.ints .i64 l))] [] K=(((8:Int)=(8:Int)∧0≤(↑l.length:Int)∧(↑l.length:Int)≤1000000000)∧K (.one (.int .i64 (((↑l.length:Int)+7)/8))) []):=by kernel_rfl
theorem ex34(x:List Int)(ch c:Int)(K:AV→List Blk→Prop):evFn E34 Tryz.f20 [.one (.data (.ints .i64 x)),.agg [.int .i64 ch,.int .i64 c]] [] K=(x.length≤1000000000∧[bif decide (IntKind.i64.wrap ((IntKind.i64.wrap (IntKind.i64.wrap ((↑x.length:Int)+8)-1)).tdiv 8)≤40) then(0:Int) else(8:Int),bif x.all sampleG then(0:Int) else(2:Int),bif withinG ch 0 3 then(0:Int) else(2:Int)].length≤1000∧bif firstE [bif decide (IntKind.i64.wrap ((IntKind.i64.wrap (IntKind.i64.wrap ((↑x.length:Int)+8)-1)).tdiv 8)≤40) then(0:Int) else(8:Int),bif x.all sampleG then(0:Int) else(2:Int),bif withinG ch 0 3 then(0:Int) else(2:Int)]!=0 then K (AV.tup [.one .nil,.one (.int .i64 (firstE [bif decide (IntKind.i64.wrap ((IntKind.i64.wrap (IntKind.i64.wrap ((↑x.length:Int)+8)-1)).tdiv 8)≤40) then(0:Int) else(8:Int),bif x.all sampleG then(0:Int) else(2:Int),bif withinG ch 0 3 then(0:Int) else(2:Int)]))]) [] else bif !withinG c 0 65535 then K (AV.tup [.one .nil,.one (.int .i64 2)]) [] else bif decide (IntKind.i64.wrap ((IntKind.i64.wrap (IntKind.i64.wrap ((↑x.length:Int)+8)-1)).tdiv 8)>0) then bif !withinG (IntKind.i64.wrap (IntKind.i64.wrap (c+IntKind.i64.wrap ((IntKind.i64.wrap (IntKind.i64.wrap ((↑x.length:Int)+8)-1)).tdiv 8))-1)) 0 65535 then K (AV.tup [.one .nil,.one (.int .i64 2)]) [] else(8:Int)=(8:Int)∧bif decide ((8:Int)=(8:Int))&&decide (x.length≤1000000) then ∃cs,chunkI x=List.map item1 cs∧((0≤ch∧ch≤3)∧(0≤c∧c+0+(↑cs.length:Int)≤65536)∧ ∀(p:List Int),p ∈ cs→p.all sampleG=true∧p.length≤8)∧cs.length≤1000∧bif cs.isEmpty then K (AV.tup [.one .nil,.one (.int .i64 0)]) [] else K (AV.tup [.one (.own 0 11),.one (.int .i64 0)]) [Blk.row 24 (Row.mat .i64 11 (blkRows ch c cs))] else False else(8:Int)=(8:Int)∧bif decide ((8:Int)=(8:Int))&&decide (x.length≤1000000) then ∃cs,chunkI x=List.map item1 cs∧((0≤ch∧ch≤3)∧(0≤c∧c+0+(↑cs.length:Int)≤65536)∧ ∀(p:List Int),p ∈ cs→p.all sampleG=true∧p.length≤8)∧cs.length≤1000∧bif cs.isEmpty then K (AV.tup [.one .nil,.one (.int .i64 0)]) [] else K (AV.tup [.one (.own 0 11),.one (.int .i64 0)]) [Blk.row 24 (Row.mat .i64 11 (blkRows ch c cs))] else False):=by kernel_rfl
theorem ex34a(p:List Int)(ch c:Int)(K:Ex→List AV→List Blk→Prop):evRound E34 (rangePs (lb Tryz.f20 0)) (rangeAssign (lb Tryz.f20 0)) (rangeBody (lb Tryz.f20 0)) [3,8] [.one (.ptr 0 1 0 0),.one (.ptr 1 1 0 0)] [.cells [.int .i64 ch,.int .i64 c],.cells [.nil]] [.one (.data (.ints .i64 p))] K=(contentG (IntKind.i64.wrap (c+0)) ch [bif decide (0<p.length) then p.getD 0 0 else(0:Int),bif decide (1<p.length) then p.getD 1 0 else(0:Int),bif decide (2<p.length) then p.getD 2 0 else(0:Int),bif decide (3<p.length) then p.getD 3 0 else(0:Int),bif decide (4<p.length) then p.getD 4 0 else(0:Int),bif decide (5<p.length) then p.getD 5 0 else(0:Int),bif decide (6<p.length) then p.getD 6 0 else(0:Int),bif decide (7<p.length) then p.getD 7 0 else(0:Int)]=true∧K .normal [.one (.ptr 0 1 0 0),.one (.ptr 1 1 0 0)] [Blk.cells [SV.int .i64 ch,SV.int .i64 c],Blk.cells [SV.own 2 11],Blk.row 24 (Row.mat .i64 11 [[IntKind.i64.wrap (c+0),ch,bif decide (0<p.length) then p.getD 0 0 else(0:Int),bif decide (1<p.length) then p.getD 1 0 else(0:Int),bif decide (2<p.length) then p.getD 2 0 else(0:Int),bif decide (3<p.length) then p.getD 3 0 else(0:Int),bif decide (4<p.length) then p.getD 4 0 else(0:Int),bif decide (5<p.length) then p.getD 5 0 else(0:Int),bif decide (6<p.length) then p.getD 6 0 else(0:Int),bif decide (7<p.length) then p.getD 7 0 else(0:Int),sumG (IntKind.i64.wrap (c+0)) ch [bif decide (0<p.length) then p.getD 0 0 else(0:Int),bif decide (1<p.length) then p.getD 1 0 else(0:Int),bif decide (2<p.length) then p.getD 2 0 else(0:Int),bif decide (3<p.length) then p.getD 3 0 else(0:Int),bif decide (4<p.length) then p.getD 4 0 else(0:Int),bif decide (5<p.length) then p.getD 5 0 else(0:Int),bif decide (6<p.length) then p.getD 6 0 else(0:Int),bif decide (7<p.length) then p.getD 7 0 else(0:Int)]]])]):=by kernel_rfl
theorem ex34b(p:List Int)(rows:List (List Int))(ch c:Int)(K:Ex→List AV→List Blk→Prop):evRound E34 (rangePs (lb Tryz.f20 0)) (rangeAssign (lb Tryz.f20 0)) (rangeBody (lb Tryz.f20 0)) [3,8] [.one (.ptr 0 1 0 0),.one (.ptr 1 1 0 0)] [.cells [.int .i64 ch,.int .i64 c],.cells [.own 2 11],.row 24 (.mat .i64 11 rows)] [.one (.data (.ints .i64 p))] K=(contentG (IntKind.i64.wrap (c+(↑rows.length:Int))) ch [bif decide (0<p.length) then p.getD 0 0 else(0:Int),bif decide (1<p.length) then p.getD 1 0 else(0:Int),bif decide (2<p.length) then p.getD 2 0 else(0:Int),bif decide (3<p.length) then p.getD 3 0 else(0:Int),bif decide (4<p.length) then p.getD 4 0 else(0:Int),bif decide (5<p.length) then p.getD 5 0 else(0:Int),bif decide (6<p.length) then p.getD 6 0 else(0:Int),bif decide (7<p.length) then p.getD 7 0 else(0:Int)]=true∧bif decide ((rows++[[IntKind.i64.wrap (c+(↑rows.length:Int)),ch,bif decide (0<p.length) then p.getD 0 0 else(0:Int),bif decide (1<p.length) then p.getD 1 0 else(0:Int),bif decide (2<p.length) then p.getD 2 0 else(0:Int),bif decide (3<p.length) then p.getD 3 0 else(0:Int),bif decide (4<p.length) then p.getD 4 0 else(0:Int),bif decide (5<p.length) then p.getD 5 0 else(0:Int),bif decide (6<p.length) then p.getD 6 0 else(0:Int),bif decide (7<p.length) then p.getD 7 0 else(0:Int),sumG (IntKind.i64.wrap (c+(↑rows.length:Int))) ch [bif decide (0<p.length) then p.getD 0 0 else(0:Int),bif decide (1<p.length) then p.getD 1 0 else(0:Int),bif decide (2<p.length) then p.getD 2 0 else(0:Int),bif decide (3<p.length) then p.getD 3 0 else(0:Int),bif decide (4<p.length) then p.getD 4 0 else(0:Int),bif decide (5<p.length) then p.getD 5 0 else(0:Int),bif decide (6<p.length) then p.getD 6 0 else(0:Int),bif decide (7<p.length) then p.getD 7 0 else(0:Int)]]]).length*88≤140737488355328∧(rows++[[IntKind.i64.wrap (c+(↑rows.length:Int)),ch,bif decide (0<p.length) then p.getD 0 0 else(0:Int),bif decide (1<p.length) then p.getD 1 0 else(0:Int),bif decide (2<p.length) then p.getD 2 0 else(0:Int),bif decide (3<p.length) then p.getD 3 0 else(0:Int),bif decide (4<p.length) then p.getD 4 0 else(0:Int),bif decide (5<p.length) then p.getD 5 0 else(0:Int),bif decide (6<p.length) then p.getD 6 0 else(0:Int),bif decide (7<p.length) then p.getD 7 0 else(0:Int),sumG (IntKind.i64.wrap (c+(↑rows.length:Int))) ch [bif decide (0<p.length) then p.getD 0 0 else(0:Int),bif decide (1<p.length) then p.getD 1 0 else(0:Int),bif decide (2<p.length) then p.getD 2 0 else(0:Int),bif decide (3<p.length) then p.getD 3 0 else(0:Int),bif decide (4<p.length) then p.getD 4 0 else(0:Int),bif decide (5<p.length) then p.getD 5 0 else(0:Int),bif decide (6<p.length) then p.getD 6 0 else(0:Int),bif decide (7<p.length) then p.getD 7 0 else(0:Int)]]]).length≤140737488355328) then K .normal [.one (.ptr 0 1 0 0),.one (.ptr 1 1 0 0)] [Blk.cells [SV.int .i64 ch,SV.int .i64 c],Blk.cells [SV.own 2 11],Blk.row 24 (Row.mat .i64 11 (rows++[[IntKind.i64.wrap (c+(↑rows.length:Int)),ch,bif decide (0<p.length) then p.getD 0 0 else(0:Int),bif decide (1<p.length) then p.getD 1 0 else(0:Int),bif decide (2<p.length) then p.getD 2 0 else(0:Int),bif decide (3<p.length) then p.getD 3 0 else(0:Int),bif decide (4<p.length) then p.getD 4 0 else(0:Int),bif decide (5<p.length) then p.getD 5 0 else(0:Int),bif decide (6<p.length) then p.getD 6 0 else(0:Int),bif decide (7<p.length) then p.getD 7 0 else(0:Int),sumG (IntKind.i64.wrap (c+(↑rows.length:Int))) ch [bif decide (0<p.length) then p.getD 0 0 else(0:Int),bif decide (1<p.length) then p.getD 1 0 else(0:Int),bif decide (2<p.length) then p.getD 2 0 else(0:Int),bif decide (3<p.length) then p.getD 3 0 else(0:Int),bif decide (4<p.length) then p.getD 4 0 else(0:Int),bif decide (5<p.length) then p.getD 5 0 else(0:Int),bif decide (6<p.length) then p.getD 6 0 else(0:Int),bif decide (7<p.length) then p.getD 7 0 else(0:Int)]]]))] else False):=by kernel_rfl
theorem ex36(x:List Int)(ch c:Int)(K:AV→List Blk→Prop):evFn E36 Tryz.f18 [.one (.data (.ints .i64 x)),.agg [.int .i64 ch,.int .i64 c]] [] K=(x.length≤1000000000∧bif decide ((↑(countN x):Int)>40) then K (.one (.int .i64 8)) [] else x.length≤1000000000∧bif !x.all sampleG then K (.one (.int .i64 2)) [] else bif (bif withinG ch 0 3 then(0:Int) else(2:Int))!=0 then K (.one (.int .i64 (bif withinG ch 0 3 then(0:Int) else(2:Int)))) [] else bif !(decide (0≤c)&&decide (c≤65535)) then K (.one (.int .i64 2)) [] else x.length≤1000000000∧bif decide (IntKind.i64.wrap (c+if IntKind.i64.wrap ((↑(countN x):Int)-1)>0 then IntKind.i64.wrap ((↑(countN x):Int)-1) else(0:Int))>65535) then K (.one (.int .i64 2)) [] else K (.one (.int .i64 0)) []):=by kernel_rfl
end Go.Ev
namespace Go.Ev
open Go Go.Proofs
attribute [local irreducible] evFn evBody evRound
set_option maxRecDepth 20000
theorem chunkI_nil:chunkI []=[]:=rfl
theorem countN_step{l:List Int}(h:0<l.length):countN l=countN (l.drop 8)+1:=by
 unfold countN
 rw[List.length_drop]
 omega
theorem chunkI_step{l:List Int}(h:0<l.length):chunkI l=item1 (l.take 8)::chunkI (l.drop 8):=by
 unfold chunkI
 rw[countN_step h]
 rfl
theorem lok128:LoopOK E128 (lb Tryz.f103 0) [0,1,2,4] [] chunkL:=by
 refine loopOK .nil (noInner (by kernel_rfl)) (fun vs σ=>match vs,σ with
  |[_,_,_,.one (.int .i64 i)],[_,.cells [.data (.ints .i64 l)],_]=>l.length-i.toNat
  |_,_=>0) fun vs σ k h=> ?_
 unfold chunkL at h
 split at h
 ·rename_i i P J D L l n
  rw[ex128a l n i P J D L _]
  obtain⟨⟨h1,rfl,h3,h4,h5,h6⟩,h⟩:=h
  by_cases hi:i<l.length
  ·have hi':i.toNat≤l.length:=by omega
   have hd:(l.take l.length).drop i.toNat=l.drop i.toNat:=by rw[List.take_length]
   have e1:List.take (l.length-i.toNat) (List.drop i.toNat l)=List.drop i.toNat l:=List.take_of_length_le (by rw[List.length_drop];omega)
   have hdl:(List.drop i.toNat l).length=l.length-i.toNat:=List.length_drop
   rw[chunkI_step (by rw[hdl];omega),List.drop_drop] at h6
   subst h6
   rw[e1]
   have hw:IntKind.i64.wrap (i+8)=i+8:=wrap_id (by omega) (by omega)
   generalize hm:(if((List.drop i.toNat l).length:Int)<8 then((List.drop i.toNat l).length:Int) else 8)=m
   have hm2:m=((min 8 (l.length-i.toNat):Nat):Int):=by
    rw[← hm,hdl]
    split<;>omega
   have hwm:IntKind.i64.wrap (i+m)=i+m:=wrap_id (by omega) (by omega)
   have e2:(i+m).toNat-i.toNat=min 8 (l.length-i.toNat):=by omega
   have e3:List.take (min 8 (l.length-i.toNat)) (List.drop i.toNat l)=List.take 8 (List.drop i.toNat l):=by
    rw[← hdl,← List.take_take,List.take_length]
   have c1:(0:Int)≤i+m:=by omega
   have c2:(i+m).toNat≤l.length:=by omega
   have c3:i.toNat≤(i+m).toNat:=by omega
   simp only[hwm,e2,e3,hi,h4,hi',c1,c2,c3,hw,Nat.le_refl,decide_true,Bool.and_self,cond_true]
   refine⟨h1,rfl,fun D'=>⟨⟨⟨⟨h1,rfl,h3,by omega,by omega,?_⟩,h⟩,by omega⟩,(h D').2⟩⟩
   rw[show(i+8).toNat=i.toNat+8 by omega]
  ·rw[List.drop_eq_nil_of_le (by omega),chunkI_nil] at h6
   subst h6
   simp only[hi,decide_false,cond_false]
   exact(h D).1
 ·exact h.elim
theorem ok128:SpecOK Tryz.prog 103 (seqSpec Tryz.prog chunkSq):=by
 refine specOK (n:=31) (m:=3) (lps:=[(1,.spec [0,1,2,4] [] chunkL)]) .nil Tryz.func103 (by kernel_rfl) (by kernel_rfl) (theLoops (n:=1) (by kernel_rfl) fun i hi=> ?_) fun args σ K h=> ?_
 ·match i,hi with
  |0,_=>exact loopHyp_of (key:=1) (by kernel_rfl) rfl lok128
 ·unfold seqSpec at h
  split at h
  ·rename_i caps P J D L lent
   split at h
   ·rename_i c xs hsq
    unfold chunkSq at hsq
    split at hsq
    ·rename_i l n
     simp only[Option.some.injEq,Prod.mk.injEq] at hsq
     obtain⟨rfl,rfl⟩:=hsq
     have h':cond (decide (n=8)&&decide (l.length≤1000000)) (P=Tryz.prog∧L=chunkI l∧ ∀(D':Nat→Prop) (lent':List Blk),K (.tup []) (.ghost Tryz.prog J D' (some [])::lent')∧K (.tup []) (.ghost Tryz.prog J D' none::lent')) False:=h
     obtain⟨hc,h2,h3,h4⟩:=cond_pos h'
     simp only[Bool.and_eq_true,decide_eq_true_eq] at hc
     obtain⟨rfl,hl⟩:=hc
     subst h2;subst h3
     rw[ex128 l 8 _ J D _ K]
     exact⟨⟨rfl,rfl,hl,by decide,by omega,rfl⟩,fun D'=>h4 D' _⟩
    ·cases hsq
   ·exact h.elim
  ·exact h.elim
theorem ok95:SpecOK Tryz.prog 63 chunkS:=by
 refine specOK (n:=9) (m:=0) (lps:=[]) .nil Tryz.func63 (by kernel_rfl) (by kernel_rfl) (noLoops (by kernel_rfl)) fun args σ K h=> ?_
 unfold chunkS at h
 split at h
 ·rename_i l n
  rw[ex95 l n K]
  obtain⟨rfl,h⟩:=h
  exact h
 ·exact h.elim
theorem floor8{n:Int}(h: -1000000000≤n∧n≤1000000000):(bif decide (n.tmod 8<0) then n.tdiv 8-1 else n.tdiv 8)=n/8:=by
 by_cases h0:0≤n
 ·rw[Int.tmod_eq_emod_of_nonneg h0,Int.tdiv_eq_ediv_of_nonneg h0,decide_eq_false (by omega)]
  rfl
 ·have e1:n.tmod 8= -((-n)%8):=by
   have e:n.tmod 8= -((-n).tmod 8):=by rw[Int.neg_tmod,Int.neg_neg]
   rw[e,Int.tmod_eq_emod_of_nonneg (by omega)]
  have e2:n.tdiv 8= -((-n)/8):=by
   have e:n.tdiv 8= -((-n).tdiv 8):=by rw[Int.neg_tdiv,Int.neg_neg]
   rw[e,Int.tdiv_eq_ediv_of_nonneg (by omega)]
  rw[e1,e2]
  by_cases h1: -((-n)%8)<0
  ·rw[decide_eq_true h1,cond_true];omega
  ·rw[decide_eq_false h1,cond_false];omega
theorem tdiv8_range{n:Int}(h: -1000000000≤n∧n≤1000000000): -1000000000≤n.tdiv 8∧n.tdiv 8≤1000000000:=by
 by_cases h0:0≤n
 ·rw[Int.tdiv_eq_ediv_of_nonneg h0];omega
 ·have e2:n.tdiv 8= -((-n)/8):=by
   have e:n.tdiv 8= -((-n).tdiv 8):=by rw[Int.neg_tdiv,Int.neg_neg]
   rw[e,Int.tdiv_eq_ediv_of_nonneg (by omega)]
  rw[e2];omega
theorem ok140:SpecOK Tryz.prog 125 floorS:=by
 refine specOK (n:=16) (m:=0) (lps:=[]) .nil Tryz.func125 (by kernel_rfl) (by kernel_rfl) (noLoops (by kernel_rfl)) fun args σ K h=> ?_
 unfold floorS at h
 split at h
 ·rename_i n b
  rw[ex140 n b K]
  obtain⟨⟨rfl,h1⟩,h⟩:=h
  have hr:=tdiv8_range h1
  have hf:=floor8 h1
  rw[wrap_id (n:=n.tdiv 8) (by omega) (by omega),wrap_id (n:=n.tdiv 8-1) (by omega) (by omega)]
  rw[← hf] at h
  simp only[show(decide ((8:Int)=0))=false by decide,Bool.not_false,cond_true]
  cases hb:decide (n.tmod 8<0)<;>rw[hb] at h<;>exact h
 ·exact h.elim
theorem ok129:SpecOK Tryz.prog 101 ceilS:=by
 refine specOK (n:=10) (m:=0) (lps:=[]) (.cons ok140 .nil) Tryz.func101 (by kernel_rfl) (by kernel_rfl) (noLoops (by kernel_rfl)) fun args σ K h=> ?_
 unfold ceilS at h
 split at h
 ·rename_i n b
  rw[ex129 n b K]
  obtain⟨⟨rfl,h1,h2⟩,h⟩:=h
  rw[wrap_id (n:=0-n) (by omega) (by omega),wrap_id (n:=0-(0-n)/8) (by omega) (by omega)]
  rw[show(n+7)/8=0-(0-n)/8 by omega] at h
  exact⟨⟨rfl,by omega,by omega⟩,h⟩
 ·exact h.elim
theorem ok96:SpecOK Tryz.prog 56 countS:=by
 refine specOK (n:=6) (m:=0) (lps:=[]) (.cons ok129 .nil) Tryz.func56 (by kernel_rfl) (by kernel_rfl) (noLoops (by kernel_rfl)) fun args σ K h=> ?_
 unfold countS at h
 split at h
 ·rename_i l
  rw[ex96 l K]
  obtain⟨h1,h⟩:=h
  have e:((countN l:Nat):Int)=((l.length:Int)+7)/8:=by unfold countN;omega
  rw[e] at h
  exact⟨⟨rfl,by omega,by omega⟩,h⟩
 ·exact h.elim
theorem padc(p:List Int)(j:Nat):(bif decide (j<p.length) then p.getD j 0 else 0)=p.getD j 0:=by
 by_cases h:j<p.length
 ·rw[decide_eq_true h];rfl
 ·rw[decide_eq_false h,List.getD,List.getElem?_eq_none (by omega)];rfl
theorem pad_ok{p:List Int}(h:p.all sampleG=true):(pad8 p).all sampleG=true:=by
 have: ∀j,sampleG (p.getD j 0)=true:=fun j=>by
  by_cases hj:j<p.length
  ·rw[getD_of_lt hj];exact List.all_eq_true.1 h _ (List.getElem_mem hj)
  ·rw[List.getD,List.getElem?_eq_none (by omega)];rfl
 simp only[pad8,List.all_cons,this,List.all_nil,Bool.and_self]
theorem cut_content{ch c:Int}{p:List Int}(h1:0≤ch∧ch≤3)(h2:0≤c∧c≤65535)(h:p.all sampleG=true):contentG c ch (pad8 p)=true:=by
 unfold contentG withinG
 rw[pad_ok h]
 simp only[h1,h2,decide_true,Bool.and_self]
theorem okCut_cons{ch c:Int}{n:Nat}{p:List Int}{cs:List (List Int)}(h:okCut ch c n (p::cs)):p.all sampleG=true∧p.length≤8∧okCut ch c (n+1) cs:=by
 obtain⟨h1,h2,h3⟩:=h
 have:=h3 p (by simp)
 simp only[List.length_cons] at h2
 exact⟨this.1,this.2,h1,⟨h2.1,by omega⟩,fun q hq=>h3 q (List.mem_cons_of_mem p hq)⟩
theorem ok34L:AllOK Tryz.prog [(50,unlessS),(59,eachS),(61,channelS),(49,firstS),(62,counterS),(63,chunkS),(64,sumS)]:= .cons ok70 (.cons ok91 (.cons ok93 (.cons ok69 (.cons ok94 (.cons ok95 (.cons ok79 .nil))))))
theorem rok34:RangeOK E34 103 chunkSq (rangePs (lb Tryz.f20 0)) (rangeAssign (lb Tryz.f20 0)) (rangeBody (lb Tryz.f20 0)) [3,8] cutGL:=by
 refine⟨ok128,fun x rest vs σ k h=> ?_,fun vs σ k h=> ?_⟩
 ·unfold cutGL at h
  split at h
  ·rename_i ch c
   obtain⟨cs,hcs,hok,hl,h⟩:=h
   cases cs with
   |nil=>simp at hcs
   |cons p cs=>
    simp only[List.map_cons,List.cons.injEq] at hcs
    obtain⟨rfl,rfl⟩:=hcs
    obtain⟨k1,k2,k3⟩:=okCut_cons hok
    obtain⟨k4,⟨k5,k6⟩,k7⟩:=k3
    have hw:IntKind.i64.wrap (c+0)=c:=by rw[Int.add_zero];exact wrap_id (by omega) (by omega)
    unfold item1
    rw[ex34a p ch c _]
    simp only[padc,hw]
    refine⟨cut_content k4 ⟨k5,by omega⟩ k1,cs,rfl,⟨k4,⟨k5,by simpa using k6⟩,k7⟩,by simp only[List.length_cons] at hl ⊢;simp only[List.length_nil];omega,?_⟩
    exact h
  ·rename_i ch c rows
   obtain⟨cs,hcs,hok,hl,h⟩:=h
   cases cs with
   |nil=>simp at hcs
   |cons p cs=>
    simp only[List.map_cons,List.cons.injEq] at hcs
    obtain⟨rfl,rfl⟩:=hcs
    obtain⟨k1,k2,k3⟩:=okCut_cons hok
    obtain⟨k4,⟨k5,k6⟩,k7⟩:=k3
    simp only[List.length_cons] at hl
    have hw:IntKind.i64.wrap (c+(rows.length:Int))=c+rows.length:=wrap_id (by omega) (by omega)
    unfold item1
    rw[ex34b p rows ch c _]
    simp only[padc,hw]
    have hlen: ∀r:List Int,(rows++[r]).length=rows.length+1:=fun r=>by simp
    refine⟨cut_content k4 ⟨by omega,by omega⟩ k1,?_⟩
    rw[hlen,decide_eq_true (by omega),cond_true]
    refine⟨cs,rfl,⟨k4,⟨k5,by rw[hlen];omega⟩,k7⟩,by rw[hlen];omega,?_⟩
    rw[hlen,List.append_assoc]
    have e:c+((rows.length+1:Nat):Int)=c+(rows.length:Int)+1:=by omega
    rw[e]
    exact h
  ·exact h.elim
 ·unfold cutGL at h
  split at h
  ·obtain⟨cs,hcs,_,_,h⟩:=h
   cases cs with
   |nil=>exact h
   |cons p cs=>simp at hcs
  ·obtain⟨cs,hcs,_,_,h⟩:=h
   cases cs with
   |nil=>simp only[blkRows,List.append_nil] at h;exact h
   |cons p cs=>simp at hcs
  ·exact h.elim
theorem chunk_facts: ∀(n:Nat) (x:List Int),x.length≤8*n→((chunkC x (countN x)).length=countN x)∧(x.all sampleG=true→ ∀p ∈ chunkC x (countN x),p.all sampleG=true∧p.length≤8)
 |0,x,h=>by
  have:x=[]:=List.length_eq_zero_iff.1 (by omega)
  subst this
  exact⟨rfl,fun _ p hp=>by simp[chunkC,countN] at hp⟩
 |n+1,x,h=>by
  by_cases hx:0<x.length
  ·rw[countN_step hx]
   obtain⟨i1,i2⟩:=chunk_facts n (x.drop 8) (by rw[List.length_drop];omega)
   refine⟨by simp only[chunkC,List.length_cons,i1],fun ha p hp=> ?_⟩
   simp only[chunkC,List.mem_cons] at hp
   rcases hp with rfl|hp
   ·exact⟨List.all_eq_true.2 fun y hy=>List.all_eq_true.1 ha y (List.mem_of_mem_take hy),by rw[List.length_take];omega⟩
   ·exact i2 (List.all_eq_true.2 fun y hy=>List.all_eq_true.1 ha y (List.mem_of_mem_drop hy)) p hp
  ·have:x=[]:=List.length_eq_zero_iff.1 (by omega)
   subst this
   exact⟨rfl,fun _ p hp=>by simp[chunkC,countN] at hp⟩
theorem chunk_empty(x:List Int):(chunkC x (countN x)).isEmpty=x.isEmpty:=by
 cases x with
 |nil=>rfl
 |cons y ys=>
  rw[countN_step (by simp)]
  rfl
theorem prog_count{x:List Int}(h:x.length≤1000000):IntKind.i64.wrap ((IntKind.i64.wrap (IntKind.i64.wrap ((x.length:Int)+8)-1)).tdiv 8)=(countN x:Int):=by
 rw[wrap_id (n:=(x.length:Int)+8) (by omega) (by omega),wrap_id (n:=(x.length:Int)+8-1) (by omega) (by omega),Int.tdiv_eq_ediv_of_nonneg (by omega),wrap_id (by omega) (by omega)]
 unfold countN
 omega
theorem ok34:SpecOK Tryz.prog 20 blocksOfS:=by
 refine specOK (n:=69) (m:=0) (lps:=[(1000009,.range 103 chunkSq [3,8] cutGL)]) ok34L Tryz.func20 (by kernel_rfl) (by kernel_rfl) (theLoops (n:=1) (by kernel_rfl) fun i hi=> ?_) fun args σ K h=> ?_
 ·match i,hi with
  |0,_=>exact loopHyp_range (key:=1000009) (by kernel_rfl) (by kernel_rfl) rfl rok34
 ·unfold blocksOfS at h
  split at h
  ·rename_i x ch c
   rw[ex34 x ch c K]
   obtain⟨hl,h⟩:=h
   simp only[prog_count hl]
   refine⟨by omega,(by decide:(3:Nat)≤1000),?_⟩
   unfold cutE at h
   obtain⟨f1,f2⟩:=chunk_facts x.length x (by omega)
   by_cases c1:(countN x:Int)≤40
   ·rw[decide_eq_true c1] at h ⊢
    cases ha:x.all sampleG with
    |false=>rw[ha] at h;exact h
    |true=>
     have f3:=f2 ha
     cases hb:withinG ch 0 3 with
     |false=>rw[ha,hb] at h;exact h
     |true=>
      cases hc:withinG c 0 65535 with
      |false=>rw[ha,hb,hc] at h;exact h
      |true=>
       rw[ha,hb,hc] at h
       have e0:(firstE [bif true then 0 else 8,bif true then 0 else 2,bif true then 0 else 2]!=0)=false:=rfl
       rw[e0]
       have hch:0≤ch∧ch≤3:=by
        unfold withinG at hb
        simp only[Bool.and_eq_true,decide_eq_true_eq] at hb
        exact hb
       have hcc:0≤c∧c≤65535:=by
        unfold withinG at hc
        simp only[Bool.and_eq_true,decide_eq_true_eq] at hc
        exact hc
       have hw1:IntKind.i64.wrap (c+(countN x:Int))=c+countN x:=wrap_id (by omega) (by omega)
       have hw2:IntKind.i64.wrap (c+(countN x:Int)-1)=c+countN x-1:=wrap_id (by omega) (by omega)
       have hemp:=chunk_empty x
       have fin:c+countN x≤65536→(bif x.isEmpty then K (.tup [.one .nil,.one (.int .i64 0)]) [] else K (.tup [.one (.own 0 11),.one (.int .i64 0)]) [.row 24 (.mat .i64 11 (cutRows x ch c))])→
         (∃cs,chunkI x=List.map item1 cs∧((0≤ch∧ch≤3)∧(0≤c∧c+0+(cs.length:Int)≤65536)∧ ∀p:List Int,p ∈ cs→p.all sampleG=true∧p.length≤8)∧cs.length≤1000∧
          bif cs.isEmpty then K (.tup [.one .nil,.one (.int .i64 0)]) [] else K (.tup [.one (.own 0 11),.one (.int .i64 0)]) [.row 24 (.mat .i64 11 (blkRows ch c cs))]):=by
        intro hle hK
        refine⟨chunkC x (countN x),rfl,⟨hch,⟨hcc.1,by rw[f1];omega⟩,f3⟩,by rw[f1];omega,?_⟩
        rw[hemp]
        exact hK
       simp only[cond_false,Bool.not_true,hw1,hw2]
       by_cases h0:(countN x:Int)>0
       ·rw[decide_eq_true h0]
        simp only[cond_true]
        by_cases h1:c+(countN x:Int)-1≤65535
        ·have e1:withinG (c+(countN x:Int)-1) 0 65535=true:=by
          unfold withinG
          rw[decide_eq_true (by omega),decide_eq_true h1];rfl
         have e2:decide (c+max 0 ((countN x:Int)-1)≤65535)=true:=decide_eq_true (by omega)
         rw[e2] at h
         rw[e1]
         refine⟨trivial,?_⟩
         rw[decide_eq_true hl]
         exact fin (by omega) h
        ·have e1:withinG (c+(countN x:Int)-1) 0 65535=false:=by
          unfold withinG
          rw[decide_eq_false h1,Bool.and_false]
         have e2:decide (c+max 0 ((countN x:Int)-1)≤65535)=false:=decide_eq_false (by omega)
         rw[e2] at h
         rw[e1]
         exact h
       ·rw[decide_eq_false h0]
        simp only[cond_false]
        have e2:decide (c+max 0 ((countN x:Int)-1)≤65535)=true:=decide_eq_true (by omega)
        rw[e2] at h
        refine⟨trivial,?_⟩
        rw[decide_eq_true hl]
        exact fin (by omega) h
   ·rw[decide_eq_false c1] at h ⊢
    exact h
  ·exact h.elim
theorem ok36:SpecOK Tryz.prog 18 cutErrS:=by
 refine specOK (n:=32) (m:=0) (lps:=[]) (.cons ok96 (.cons ok81 (.cons ok80 (.cons ok25 .nil)))) Tryz.func18 (by kernel_rfl) (by kernel_rfl) (noLoops (by kernel_rfl)) fun args σ K h=> ?_
 unfold cutErrS at h
 split at h
 ·rename_i x ch c
  rw[ex36 x ch c K]
  obtain⟨hl,h⟩:=h
  have g:x.length≤1000000000:=by omega
  refine⟨g,?_⟩
  unfold cutE at h
  have hcn:countN x≤1000000:=by unfold countN;omega
  by_cases c1:(countN x:Int)≤40
  ·have c1':¬(countN x:Int)>40:=by omega
   rw[decide_eq_true c1] at h
   rw[decide_eq_false c1']
   refine⟨g,?_⟩
   cases ha:x.all sampleG with
   |false=>rw[ha] at h;exact h
   |true=>
    cases hb:withinG ch 0 3 with
    |false=>rw[ha,hb] at h;exact h
    |true=>
     have e3:(decide (0≤c)&&decide (c≤65535))=withinG c 0 65535:=rfl
     rw[e3]
     cases hc:withinG c 0 65535 with
     |false=>rw[ha,hb,hc] at h;exact h
     |true=>
      rw[ha,hb,hc] at h
      have hcc:0≤c∧c≤65535:=by
       unfold withinG at hc
       simp only[Bool.and_eq_true,decide_eq_true_eq] at hc
       exact hc
      refine⟨g,?_⟩
      rw[wrap_id (n:=(countN x:Int)-1) (by omega) (by omega)]
      have e4:(if(countN x:Int)-1>0 then(countN x:Int)-1 else 0)=max 0 ((countN x:Int)-1):=by split<;>omega
      rw[e4,wrap_id (by omega) (by omega)]
      by_cases h1:c+max 0 ((countN x:Int)-1)≤65535
      ·have h1':¬c+max 0 ((countN x:Int)-1)>65535:=by omega
       rw[decide_eq_true h1] at h
       rw[decide_eq_false h1']
       exact h
      ·have h1':c+max 0 ((countN x:Int)-1)>65535:=by omega
       rw[decide_eq_false h1] at h
       rw[decide_eq_true h1']
       exact h
  ·have c1':(countN x:Int)>40:=by omega
   rw[decide_eq_false c1] at h
   rw[decide_eq_true c1']
   exact h
 ·exact h.elim
theorem cutE_ok{x:List Int}{ch c:Int}(h:cutE x ch c=0):x.length≤320∧x.all sampleG=true∧(0≤ch∧ch≤3)∧0≤c∧c+countN x≤65536:=by
 unfold cutE at h
 cases h1:decide ((countN x:Int)≤40)<;>cases h2:x.all sampleG<;>cases h3:withinG ch 0 3<;>cases h4:withinG c 0 65535<;>cases h5:decide (c+max 0 ((countN x:Int)-1)≤65535)<;>rw[h1,h2,h3,h4,h5] at h
 all_goals first|exact absurd h (by decide)|skip
 have h1:=of_decide_eq_true h1
 have h5:=of_decide_eq_true h5
 unfold withinG at h3 h4
 simp only[Bool.and_eq_true,decide_eq_true_eq] at h3 h4
 refine⟨?_,rfl,h3,h4.1,by omega⟩
 unfold countN at h1
 omega
theorem blkRows_len(ch:Int): ∀(cs:List (List Int)) (c:Int),(blkRows ch c cs).length=cs.length∧(blkRows ch c cs).all len11=true
 |[],_=>⟨rfl,rfl⟩
 |p::cs,c=>by
  obtain⟨h1,h2⟩:=blkRows_len ch cs (c+1)
  refine⟨by simp[blkRows,h1],?_⟩
  simp only[blkRows,List.all_cons,h2,Bool.and_true]
  rfl
end Go.Ev
namespace Go.Ev
open Go Go.Proofs
set_option maxRecDepth 20000
def fewB(n:Int):Bool:=decide (n≤20)||(decide (n>40)&&decide (n≤42))
def fewS:Spec:=fun args σ K=>match args,σ with
 |[.one (.data (.mat .i64 11 l))],[]=>K (.one (.bool (fewB l.length))) []
 |_,_=>False
def copyBS:Spec:=fun args σ K=>match args,σ with
 |[.one (.data (.mat .i64 11 l))],[]=>l.length≤1000∧K (.one (.own 0 11)) [.row 24 (.mat .i64 11 l)]
 |_,_=>False
def samX(x:List Int):List Int:=[x.getD 2 0,x.getD 3 0,x.getD 4 0,x.getD 5 0,x.getD 6 0,x.getD 7 0,x.getD 8 0,x.getD 9 0]
def conB(x:List Int):Bool:=contentG (x.getD 0 0) (x.getD 1 0) (samX x)
def sumB(x:List Int):Bool:=x.getD 10 0==sumG (x.getD 0 0) (x.getD 1 0) (samX x)
def okBs(l:List (List Int)):Prop:=l.length≤1000∧l.all len11=true
def each11L:LSpec:=fun vs σ k=>match vs,σ with
 |[.one (.func 88 []),.one (.data (.mat .i64 11 l)),.one (.int .i64 n),.one (.int .i64 i)],[]=>(okBs l∧0≤i∧n=l.length)∧bif (l.drop i.toNat).all conB then k (.exit 0) [.any] [] else k .ret [.one (.int .i64 2)] []
 |_,_=>False
def each11S:Spec:=fun args σ K=>match args,σ with
 |[.one (.data (.mat .i64 11 l)),.one (.func 88 [])],[]=>okBs l∧K (.one (.int .i64 (bif l.all conB then 0 else 2))) []
 |_,_=>False
def bsE(l:List (List Int)):Int:=bif decide ((l.length:Int)≤40) then(bif l.all conB then 0 else 2) else 8
def bsS:Spec:=fun args σ K=>match args,σ with
 |[.one (.data (.mat .i64 11 l))],[]=>okBs l∧K (.one (.int .i64 (bsE l))) []
 |_,_=>False
def sameK(x y:List Int):Bool:=y.getD 1 0==x.getD 1 0&&y.getD 0 0==x.getD 0 0
def kdG(N:List (List Int))(x:List Int):Int:=bif !sumB x then 3 else match N.find? (sameK x) with
 |some y=>bif y==x then 1 else 2
 |none=>0
def nxG(N:List (List Int))(x:List Int):List (List Int):=bif kdG N x==0 then N++[x] else N
def it2(k:Int)(x:List Int):List AV:=[.one (.int .i64 k),.agg [.int .i64 (x.getD 0 0),.int .i64 (x.getD 1 0),.int .i64 (x.getD 2 0),.int .i64 (x.getD 3 0),.int .i64 (x.getD 4 0),.int .i64 (x.getD 5 0),.int .i64 (x.getD 6 0),.int .i64 (x.getD 7 0),.int .i64 (x.getD 8 0),.int .i64 (x.getD 9 0),.int .i64 (x.getD 10 0)]]
def kdI:List (List Int)→List (List Int)→List (List AV)
 |_,[]=>[]
 |N,x::l=>it2 (kdG N x) x::kdI (nxG N x) l
def entX(y:List Int):List Int × List Int:=([y.getD 1 0,y.getD 0 0],y)
def kdSq:SeqSpec:=fun caps lent=>match caps,lent with
 |[.one (.ptr 1 1 0 0)],[.cells [.data (.mat .i64 11 l)]]=>some (decide (l.length≤1000)&&(l.all len11&&l.all conB),kdI [] l)
 |_,_=>none
def kdL:LSpec:=fun vs σ k=>match vs,σ with
 |[.one (.yld 0),.one (.mapv 2),.one (.data (.mat .i64 11 l)),.one (.int .i64 n),.one (.int .i64 i)],[.ghost P J D (some L),.cells [.data (.mat .i64 11 l')],.map 2 11 M]=>
  (P=Tryz.prog∧n=l.length∧okBs l∧l.all conB=true∧0≤i∧i≤n∧ ∃N:List (List Int),N.length≤i∧N.all len11=true∧M=N.map entX∧L=kdI N (l.drop i.toNat))∧
  ∀D',k (.exit 0) [] [.ghost P J D' (some []),.cells [.data (.mat .i64 11 l')]]∧k .ret [] [.ghost P J D' none,.cells [.data (.mat .i64 11 l')]]
 |_,_=>False
def kindsS:Spec:=fun args σ K=>match args,σ with
 |[.one (.data (.mat .i64 11 l))],[]=>K (.one (.func 129 [0])) [.cells [.data (.mat .i64 11 l)]]
 |_,_=>False
noncomputable abbrev Ecpb:Env:=envOf Tryz.prog [] [] 6 0
noncomputable abbrev Ee11:Env:=envOf Tryz.prog [(88,contentS)] [(2,.spec [1,8,9,10] [4] each11L)] 21 0
noncomputable abbrev Ebse:Env:=envOf Tryz.prog [(50,unlessS),(128,each11S),(49,firstS)] [] 11 0
noncomputable abbrev Eknd:Env:=envOf Tryz.prog [] [] 4 0
noncomputable abbrev Ekd:Env:=envOf Tryz.prog [(64,sumS)] [(2,.spec [0,3,11,12,13] [] kdL)] 52 2
end Go.Ev
