/-
  Part of the proof that TopTransferMended holds.
-/
import Derived.Test.YtmailpnpjcpodaaGreatDoorT14
import Derived.Test.YtmailpnpjcpodaaGreatDoorProg
import Derived.KernelRfl
set_option linter.unusedVariables false
set_option linter.unusedSimpArgs false
set_option linter.unusedSectionVars false
namespace Go.Ev
open Go
variable [Glob]
theorem any_step{p:Int→Bool}{l:List Int}{i:Int}(h0:0≤i)(h:i<l.length):(l.drop i.toNat).any p=(p (l.getD i.toNat 0)||(l.drop (i+1).toNat).any p):=by
 rw[drop_step 0 (by omega),show(i+1).toNat=i.toNat+1 by omega]
 rfl
theorem list8{xs:List Int}(h:xs.length=8):[xs.getD 0 0,xs.getD 1 0,xs.getD 2 0,xs.getD 3 0,xs.getD 4 0,xs.getD 5 0,xs.getD 6 0,xs.getD 7 0]=xs:=
 match xs,h with
 |[_,_,_,_,_,_,_,_],_=>rfl
end Go.Ev
namespace Go.Ev
open Go Go.Proofs
instance:Glob:=⟨[(1,[.any]),(2,([1,10,100,1000,10000,100000,1000000,10000000,100000000,1000000000,10000000000,100000000000,1000000000000,10000000000000,100000000000000,1000000000000000,10000000000000000,100000000000000000,1000000000000000000,10000000000000000000]:List Int).map (SV.int .u64)),(3,[.ifc false]),(4,[.ifc false])]⟩
def wi(n:Int):Int:=IntKind.i64.wrap n
def withinS:Spec:=fun args σ K=>match args,σ with
 |[.one (.int .i64 n),.one (.int .i64 lo),.one (.int .i64 hi)],[]=>K (.one (.bool (decide (lo≤n)&&decide (n≤hi)))) []
 |_,_=>False
def unlessS:Spec:=fun args σ K=>match args,σ with
 |[.one (.bool b),.one (.int .i64 e)],[]=>K (.one (.int .i64 (cond b 0 e))) []
 |_,_=>False
def firstE:List Int→Int
 |[]=>0
 |e::l=>bif e==0 then firstE l else e
def firstS:Spec:=fun args σ K=>match args,σ with
 |[.one (.data (.ints .i64 l))],[]=>l.length≤1000∧K (.one (.int .i64 (firstE l))) []
 |_,_=>False
def firstL:LSpec:=fun vs σ k=>match vs,σ with
 |[.one (.data (.ints .i64 l)),.one (.int .i64 n),.one (.int .i64 i)],[]=>(l.length≤1000∧0≤i∧n=l.length)∧bif firstE (l.drop i.toNat)==0 then k (.exit 0) [.any] [] else k .ret [.one (.int .i64 (firstE (l.drop i.toNat)))] []
 |_,_=>False
def sizeG(n:Int):Int:=if wi (0-n)>n then wi (0-n) else n
def sizeS:Spec:=fun args σ K=>match args,σ with
 |[.one (.int .i64 a)],[]=>K (.one (.int .i64 (sizeG a))) []
 |_,_=>False
noncomputable def E71:Env:=envOf Tryz.prog [] [] 15 0
noncomputable def E70:Env:=envOf Tryz.prog [] [] 7 0
noncomputable def E69:Env:=envOf Tryz.prog [] [(2,.spec [5,6,7] [2] firstL)] 15 0
end Go.Ev
namespace Go.Ev
open Go Go.Proofs
set_option maxRecDepth 100000
theorem ex71(n lo hi:Int)(K:AV→List Blk→Prop):evFn E71 Tryz.f46 [.one (.int .i64 n),.one (.int .i64 lo),.one (.int .i64 hi)] [] K=(bif decide (lo≤n) then K (.one (.bool (decide (n≤hi)))) [] else K (.one (.bool false)) []):=by kernel_rfl
theorem ex70(b:Bool)(e:Int)(K:AV→List Blk→Prop):evFn E70 Tryz.f50 [.one (.bool b),.one (.int .i64 e)] [] K=(bif b then K (.one (.int .i64 0)) [] else K (.one (.int .i64 e)) []):=by kernel_rfl
theorem ex69(l:List Int)(K:AV→List Blk→Prop):evFn E69 Tryz.f49 [.one (.data (.ints .i64 l))] [] K=((l.length≤1000∧(0:Int)≤(0:Int)∧(↑(Row.ints .i64 l).count:Int)=(↑l.length:Int))∧bif firstE (List.drop 0 l)==0 then K (.one (.int .i64 0)) [] else K (.one (.int .i64 (firstE (List.drop 0 l)))) []):=by kernel_rfl
theorem ex69a(l:List Int)(n i:Int)(K:Ex→List AV→List Blk→Prop):evBody E69 (lb Tryz.f49 0) [5,6,7] [2] [.one (.data (.ints .i64 l)),.one (.int .i64 n),.one (.int .i64 i)] [] K=(bif decide (i<n) then bif decide (0≤i)&&decide (i<(↑(Row.ints .i64 l).count:Int)) then bif (Row.ints .i64 l).hasN i.toNat 0 1 then bif l.getD (i.toNat+0) (0:Int)!=(0:Int) then K .ret [.one (.int .i64 (l.getD (i.toNat+0) 0))] [] else K .normal [.one (.data (Row.ints .i64 l)),.one (.int .i64 n),.one (.int .i64 (IntKind.i64.wrap (i+1)))] [] else False else False else K (.exit 0) [AV.any] []):=by kernel_rfl
end Go.Ev
namespace Go.Ev
open Go Go.Proofs
attribute [local irreducible] evFn evBody evRound
set_option maxRecDepth 20000
theorem ok71:SpecOK Tryz.prog 46 withinS:=by
 refine specOK (n:=15) (m:=0) (lps:=[]) AllOK.nil Tryz.func46 (by kernel_rfl) (by kernel_rfl) (noLoops (by kernel_rfl)) fun args σ K h=> ?_
 unfold withinS at h
 split at h
 ·rename_i n lo hi
  refine(ex71 n lo hi K).mpr ?_
  cases hd:decide (lo≤n)<;>simpa [hd] using h
 ·exact h.elim
theorem ok70:SpecOK Tryz.prog 50 unlessS:=by
 refine specOK (n:=7) (m:=0) (lps:=[]) AllOK.nil Tryz.func50 (by kernel_rfl) (by kernel_rfl) (noLoops (by kernel_rfl)) fun args σ K h=> ?_
 unfold unlessS at h
 split at h
 ·rename_i b e
  refine(ex70 b e K).mpr ?_
  cases b<;>exact h
 ·exact h.elim
theorem firstE_step{l:List Int}{i:Int}(h0:0≤i)(h:i<l.length):firstE (l.drop i.toNat)=bif l.getD i.toNat 0==0 then firstE (l.drop (i+1).toNat) else l.getD i.toNat 0:=by
 rw[drop_step 0 (by omega),show(i+1).toNat=i.toNat+1 by omega]
 rfl
theorem lok69:LoopOK E69 (lb Tryz.f49 0) [5,6,7] [2] firstL:=by
 refine loopOK AllOK.nil (noInner (by kernel_rfl)) (fun vs _=>match vs with
  |[.one (.data (.ints .i64 l)),_,.one (.int .i64 i)]=>l.length-i.toNat
  |_=>0) fun vs σ k h=> ?_
 unfold firstL at h
 split at h
 ·rename_i l n i
  obtain⟨⟨h1,h2,rfl⟩,h⟩:=h
  refine(ex69a l _ i _).mpr ?_
  simp only[count_ints,hasN_one,has_ints,Nat.add_zero]
  by_cases hi:i<l.length
  ·have hw:IntKind.i64.wrap (i+1)=i+1:=wrap_id (by omega) (by omega)
   have hi':i.toNat<l.length:=by omega
   rw[firstE_step h2 hi] at h
   by_cases hz:l.getD i.toNat 0=0
   ·simp only[hz,beq_self_eq_true,cond_true] at h
    simp only[hi,hi',h2,hw,hz,decide_true,Bool.and_self,cond_true,bne_self_eq_false,cond_false]
    exact⟨⟨⟨h1,by omega,rfl⟩,h⟩,by omega⟩
   ·have hb:(l.getD i.toNat 0==0)=false:=by simpa using hz
    simp only[hb,cond_false] at h
    simp only[hi,hi',h2,bne,hb,decide_true,Bool.and_self,cond_true,Bool.not_false]
    exact h
  ·rw[List.drop_eq_nil_of_le (by omega)] at h
   simp only[hi,decide_false,cond_false]
   exact h
 ·exact h.elim
theorem ok69:SpecOK Tryz.prog 49 firstS:=by
 refine specOK (n:=15) (m:=0) (lps:=[(2,.spec [5,6,7] [2] firstL)]) AllOK.nil Tryz.func49 (by kernel_rfl) (by kernel_rfl) (theLoops (n:=1) (by kernel_rfl) fun i hi=> ?_) fun args σ K h=> ?_
 ·match i,hi with
  |0,_=>exact loopHyp_of (key:=2) (by kernel_rfl) rfl lok69
 ·unfold firstS at h
  split at h
  ·rename_i l
   refine(ex69 l K).mpr ?_
   refine⟨⟨h.1,by omega,rfl⟩,?_⟩
   simp only[List.drop_zero]
   by_cases hz:firstE l=0
   ·simpa [hz] using h.2
   ·simpa [hz] using h.2
  ·exact h.elim
end Go.Ev
namespace Go.Ev
open Go Go.Proofs
set_option maxRecDepth 20000
noncomputable def E25:Env:=envOf Tryz.prog [] [] 15 0
noncomputable def E137:Env:=envOf Tryz.prog [] [] 8 0
end Go.Ev
namespace Go.Ev
open Go Go.Proofs
set_option maxRecDepth 100000
theorem ex25(n lo hi:Int)(K:AV→List Blk→Prop):evFn E25 Tryz.f19 [.one (.int .i64 n),.one (.int .i64 lo),.one (.int .i64 hi)] [] K=(bif decide (lo≤n) then K (.one (.bool (decide (n≤hi)))) [] else K (.one (.bool false)) []):=by kernel_rfl
theorem ex137(a:Int)(K:AV→List Blk→Prop):evFn E137 Tryz.f99 [.one (.int .i64 a)] [] K=(K (.one (.int .i64 (if IntKind.i64.wrap (0-a)>a then IntKind.i64.wrap (0-a) else a))) []):=by kernel_rfl
end Go.Ev
namespace Go.Ev
open Go Go.Proofs
attribute [local irreducible] evFn evBody evRound
set_option maxRecDepth 20000
theorem ok25:SpecOK Tryz.prog 19 withinS:=by
 refine specOK (n:=15) (m:=0) (lps:=[]) AllOK.nil Tryz.func19 (by kernel_rfl) (by kernel_rfl) (noLoops (by kernel_rfl)) fun args σ K h=> ?_
 unfold withinS at h
 split at h
 ·rename_i n lo hi
  refine(ex25 n lo hi K).mpr ?_
  cases hd:decide (lo≤n)<;>simpa [hd] using h
 ·exact h.elim
theorem ok137:SpecOK Tryz.prog 99 sizeS:=by
 refine specOK (n:=8) (m:=0) (lps:=[]) AllOK.nil Tryz.func99 (by kernel_rfl) (by kernel_rfl) (noLoops (by kernel_rfl)) fun args σ K h=> ?_
 unfold sizeS at h
 split at h
 ·exact(ex137 _ K).mpr h
 ·exact h.elim
end Go.Ev
namespace Go.Ev
open Go Go.Proofs
set_option maxRecDepth 20000
def withinG(n lo hi:Int):Bool:=decide (lo≤n)&&decide (n≤hi)
end Go.Ev
namespace Go.Ev
open Go Go.Proofs
set_option maxRecDepth 20000
def sampleG(n:Int):Bool:=withinG n (-32767) 32767
def sampleS:Spec:=fun args σ K=>match args,σ with
 |[.one (.int .i64 n)],[]=>K (.one (.int .i64 (bif sampleG n then 0 else 2))) []
 |_,_=>False
def channelS:Spec:=fun args σ K=>match args,σ with
 |[.one (.int .i64 n)],[]=>K (.one (.int .i64 (bif withinG n 0 3 then 0 else 2))) []
 |_,_=>False
def counterS:Spec:=fun args σ K=>match args,σ with
 |[.one (.int .i64 n)],[]=>K (.one (.bool (withinG n 0 65535))) []
 |_,_=>False
def residueS:Spec:=fun args σ K=>match args,σ with
 |[.one (.int .i64 n)],[]=>K (.one (.bool (withinG n 0 65536))) []
 |_,_=>False
def modG(n:Int):Int:=(n.tmod 65537+65537).tmod 65537
def moduloS:Spec:=fun args σ K=>match args,σ with
 |[.one (.int .i64 n)],[]=>K (.one (.int .i64 (modG n))) []
 |_,_=>False
def timesS:Spec:=fun args σ K=>match args,σ with
 |[.one (.int .i64 a),.one (.int .i64 b)],[]=>(0≤a∧a<65537∧0≤b∧b<65537)∧K (.one (.int .i64 (modG (a*b)))) []
 |_,_=>False
def invF(out sq:Int)(n:Nat):Int:=if n=0 then out else invF (if n%2=1 then modG (out*sq) else out) (modG (sq*sq)) (n/2)
termination_by n
decreasing_by omega
def invL:LSpec:=fun vs σ k=>match vs,σ with
 |[.one (.int .i64 out),.one (.int .i64 sq),.one (.int .i64 n)],[]=>(0≤out∧out<65537∧0≤sq∧sq<65537∧0≤n∧n≤65535)∧k (.exit 0) [.one (.int .i64 (invF out sq n.toNat))] []
 |_,_=>False
def invG(a:Int):Int:=invF 1 a 65535
def inverseS:Spec:=fun args σ K=>match args,σ with
 |[.one (.int .i64 a)],[]=>(0≤a∧a<65537)∧K (.one (.int .i64 (invG a))) []
 |_,_=>False
def ne(n e:Int):AV:= .tup [.one (.int .i64 n),.one (.int .i64 e)]
def inverseOfS:Spec:=fun args σ K=>match args,σ with
 |[.one (.int .i64 n)],[]=>bif !withinG n 0 65536 then K (ne 0 2) [] else bif n==0 then K (ne 0 11) [] else K (ne (invG n) 0) []
 |_,_=>False
def eachL:LSpec:=fun vs σ k=>match vs,σ with
 |[.one (.func 60 []),.one (.data (.ints .i64 l)),.one (.int .i64 n),.one (.int .i64 i)],[]=>
  (l.length≤1000000000∧0≤i∧n=l.length)∧bif (l.drop i.toNat).all sampleG then k (.exit 0) [.any] [] else k .ret [.one (.int .i64 2)] []
 |_,_=>False
def eachS:Spec:=fun args σ K=>match args,σ with
 |[.one (.data (.ints .i64 l)),.one (.func 60 [])],[]=>l.length≤1000000000∧K (.one (.int .i64 (bif l.all sampleG then 0 else 2))) []
 |_,_=>False
def samplesS:Spec:=fun args σ K=>match args,σ with
 |[.agg [.int .i64 x0,.int .i64 x1,.int .i64 x2,.int .i64 x3,.int .i64 x4,.int .i64 x5,.int .i64 x6,.int .i64 x7]],[]=>K (.one (.int .i64 (bif [x0,x1,x2,x3,x4,x5,x6,x7].all sampleG then 0 else 2))) []
 |_,_=>False
def contentG(c ch:Int)(xs:List Int):Bool:=withinG c 0 65535&&withinG ch 0 3&&xs.all sampleG
def contentS:Spec:=fun args σ K=>match args,σ with
 |[.agg [.int .i64 c,.int .i64 ch,.int .i64 x0,.int .i64 x1,.int .i64 x2,.int .i64 x3,.int .i64 x4,.int .i64 x5,.int .i64 x6,.int .i64 x7,.int .i64 _]],[]=>
  K (.one (.int .i64 (bif contentG c ch [x0,x1,x2,x3,x4,x5,x6,x7] then 0 else 2))) []
 |_,_=>False
def sumA(i:Int):List Int→Int
 |[]=>0
 |x::l=>i*(x+32768)+sumA (i+1) l
def sumG(c ch:Int)(xs:List Int):Int:=(9*c+10*ch+sumA 1 xs).tmod 65537
def sumS:Spec:=fun args σ K=>match args,σ with
 |[.agg [.int .i64 c,.int .i64 ch,.int .i64 x0,.int .i64 x1,.int .i64 x2,.int .i64 x3,.int .i64 x4,.int .i64 x5,.int .i64 x6,.int .i64 x7,.int .i64 _]],[]=>
  contentG c ch [x0,x1,x2,x3,x4,x5,x6,x7]=true∧K (.one (.int .i64 (sumG c ch [x0,x1,x2,x3,x4,x5,x6,x7]))) []
 |_,_=>False
def sumOfS:Spec:=fun args σ K=>match args,σ with
 |[.agg [.int .i64 c,.int .i64 ch,.int .i64 x0,.int .i64 x1,.int .i64 x2,.int .i64 x3,.int .i64 x4,.int .i64 x5,.int .i64 x6,.int .i64 x7,.int .i64 _]],[]=>
  bif contentG c ch [x0,x1,x2,x3,x4,x5,x6,x7] then K (ne (sumG c ch [x0,x1,x2,x3,x4,x5,x6,x7]) 0) [] else K (ne 0 2) []
 |_,_=>False
def intsL:LSpec:=fun vs σ k=>match vs,σ with
 |[.one (.data (.ints .i64 a)),.one (.data (.ints .i64 b)),.one (.int .i64 i)],[]=>
  (a.length≤1000000000∧a.length=b.length∧0≤i)∧bif a.drop i.toNat==b.drop i.toNat then k (.exit 0) [.any] [] else k .ret [.one (.bool false)] []
 |_,_=>False
def intsS:Spec:=fun args σ K=>match args,σ with
 |[.one (.data (.ints .i64 a)),.one (.data (.ints .i64 b))],[]=>a.length≤1000000000∧K (.one (.bool (a==b))) []
 |_,_=>False
noncomputable def E92:Env:=envOf Tryz.prog [(46,withinS),(50,unlessS)] [] 6 0
noncomputable def E94:Env:=envOf Tryz.prog [(46,withinS)] [] 5 0
noncomputable def E116:Env:=envOf Tryz.prog [] [] 7 0
noncomputable def E130:Env:=envOf Tryz.prog [(82,moduloS)] [] 9 0
noncomputable def E98:Env:=envOf Tryz.prog [(107,timesS)] [(3,.spec [3,4,5] [3] invL)] 21 0
noncomputable def E39:Env:=envOf Tryz.prog [(86,residueS),(50,unlessS),(49,firstS),(87,inverseS)] [] 18 0
noncomputable def E91:Env:=envOf Tryz.prog [(60,sampleS)] [(2,.spec [1,8,9,10] [4] eachL)] 21 0
noncomputable def E82:Env:=envOf Tryz.prog [(59,eachS)] [] 5 0
noncomputable def E78:Env:=envOf Tryz.prog [(62,counterS),(61,channelS),(50,unlessS),(49,firstS),(65,samplesS)] [] 15 0
noncomputable def E79:Env:=envOf Tryz.prog [] [(3,.unroll 9)] 29 0
noncomputable def E20:Env:=envOf Tryz.prog [(88,contentS),(64,sumS)] [] 12 0
noncomputable def E30:Env:=envOf Tryz.prog [] [(4,.spec [0,1,5] [4] intsL)] 26 0
end Go.Ev
namespace Go.Ev
open Go Go.Proofs
set_option maxRecDepth 100000
theorem ex92(n:Int)(K:AV→List Blk→Prop):evFn E92 Tryz.f60 [.one (.int .i64 n)] [] K=(K (.one (.int .i64 (bif decide ((-32767:Int)≤n)&&decide (n≤32767) then(0:Int) else(2:Int)))) []):=by kernel_rfl
theorem ex93(n:Int)(K:AV→List Blk→Prop):evFn E92 Tryz.f61 [.one (.int .i64 n)] [] K=(K (.one (.int .i64 (bif decide (0≤n)&&decide (n≤3) then(0:Int) else(2:Int)))) []):=by kernel_rfl
theorem ex94(n:Int)(K:AV→List Blk→Prop):evFn E94 Tryz.f62 [.one (.int .i64 n)] [] K=(K (.one (.bool (decide (0≤n)&&decide (n≤65535)))) []):=by kernel_rfl
theorem ex97(n:Int)(K:AV→List Blk→Prop):evFn E94 Tryz.f86 [.one (.int .i64 n)] [] K=(K (.one (.bool (decide (0≤n)&&decide (n≤65536)))) []):=by kernel_rfl
theorem ex116(n:Int)(K:AV→List Blk→Prop):evFn E116 Tryz.f82 [.one (.int .i64 n)] [] K=(K (.one (.int .i64 ((IntKind.i64.wrap (n.tmod (65537:Int)+(65537:Int))).tmod 65537))) []):=by kernel_rfl
theorem ex130(a b:Int)(K:AV→List Blk→Prop):evFn E130 Tryz.f107 [.one (.int .i64 a),.one (.int .i64 b)] [] K=(K (.one (.int .i64 (modG (IntKind.i64.wrap (a*b))))) []):=by kernel_rfl
theorem ex98(a:Int)(K:AV→List Blk→Prop):evFn E98 Tryz.f87 [.one (.int .i64 a)] [] K=(((0:Int)≤(1:Int)∧(1:Int)<(65537:Int)∧0≤a∧a<65537∧(0:Int)≤(65535:Int)∧(65535:Int)≤(65535:Int))∧K (.one (.int .i64 (invF 1 a 65535))) []):=by kernel_rfl
theorem ex98a(a b n:Int)(K:Ex→List AV→List Blk→Prop):evBody E98 (lb Tryz.f87 0) [3,4,5] [3] [.one (.int .i64 a),.one (.int .i64 b),.one (.int .i64 n)] [] K=(bif decide (n>0) then bif n.tmod (2:Int)==(1:Int) then(0≤a∧a<65537∧0≤b∧b<65537)∧(0≤b∧b<65537∧0≤b∧b<65537)∧K .normal [.one (.int .i64 (modG (a*b))),.one (.int .i64 (modG (b*b))),.one (.int .i64 (IntKind.i64.wrap (n.tdiv 2)))] [] else(0≤b∧b<65537∧0≤b∧b<65537)∧K .normal [.one (.int .i64 a),.one (.int .i64 (modG (b*b))),.one (.int .i64 (IntKind.i64.wrap (n.tdiv 2)))] [] else K (.exit 0) [.one (.int .i64 a)] []):=by kernel_rfl
theorem ex39(n:Int)(K:AV→List Blk→Prop):evFn E39 Tryz.f33 [.one (.int .i64 n)] [] K=([bif withinG n 0 65536 then(0:Int) else(2:Int),bif n != 0 then(0:Int) else(11:Int)].length≤1000∧bif firstE [bif withinG n 0 65536 then(0:Int) else(2:Int),bif n != 0 then(0:Int) else(11:Int)]!=0 then K (AV.tup [.one (.int .i64 0),.one (.int .i64 (firstE [bif withinG n 0 65536 then(0:Int) else(2:Int),bif n != 0 then(0:Int) else(11:Int)]))]) [] else(0≤n∧n<65537)∧K (AV.tup [.one (.int .i64 (invG n)),.one (.int .i64 0)]) []):=by kernel_rfl
theorem ex91(l:List Int)(K:AV→List Blk→Prop):evFn E91 Tryz.f59 [.one (.data (.ints .i64 l)),.one (.func 60 [])] [] K=((l.length≤1000000000∧(0:Int)≤(0:Int)∧(↑(Row.ints .i64 l).count:Int)=(↑l.length:Int))∧bif (List.drop 0 l).all sampleG then K (.one (.int .i64 0)) [] else K (.one (.int .i64 2)) []):=by kernel_rfl
theorem ex91a(l:List Int)(n i:Int)(K:Ex→List AV→List Blk→Prop):evBody E91 (lb Tryz.f59 0) [1,8,9,10] [4] [.one (.func 60 []),.one (.data (.ints .i64 l)),.one (.int .i64 n),.one (.int .i64 i)] [] K=(bif decide (i<n) then bif decide (0≤i)&&decide (i<(↑(Row.ints .i64 l).count:Int)) then bif (Row.ints .i64 l).hasN i.toNat 0 1 then bif (bif sampleG (l.getD (i.toNat+0) 0) then(0:Int) else(2:Int))!=0 then K .ret [.one (.int .i64 (bif sampleG (l.getD (i.toNat+0) 0) then(0:Int) else(2:Int)))] [] else K .normal [.one (.func (60:FuncId) []),.one (.data (Row.ints .i64 l)),.one (.int .i64 n),.one (.int .i64 (IntKind.i64.wrap (i+1)))] [] else False else False else K (.exit 0) [AV.any] []):=by kernel_rfl
theorem ex82(x0 x1 x2 x3 x4 x5 x6 x7:Int)(K:AV→List Blk→Prop):evFn E82 Tryz.f65 [.agg [.int .i64 x0,.int .i64 x1,.int .i64 x2,.int .i64 x3,.int .i64 x4,.int .i64 x5,.int .i64 x6,.int .i64 x7]] [] K=([x0,x1,x2,x3,x4,x5,x6,x7].length≤1000000000∧K (.one (.int .i64 (bif [x0,x1,x2,x3,x4,x5,x6,x7].all sampleG then(0:Int) else(2:Int)))) []):=by kernel_rfl
theorem ex78(c ch x0 x1 x2 x3 x4 x5 x6 x7 sm:Int)(K:AV→List Blk→Prop):evFn E78 Tryz.f88 [.agg [.int .i64 c,.int .i64 ch,.int .i64 x0,.int .i64 x1,.int .i64 x2,.int .i64 x3,.int .i64 x4,.int .i64 x5,.int .i64 x6,.int .i64 x7,.int .i64 sm]] [] K=([bif withinG c 0 65535 then(0:Int) else(2:Int),bif withinG ch 0 3 then(0:Int) else(2:Int),bif [x0,x1,x2,x3,x4,x5,x6,x7].all sampleG then(0:Int) else(2:Int)].length≤1000∧K (.one (.int .i64 (firstE [bif withinG c 0 65535 then(0:Int) else(2:Int),bif withinG ch 0 3 then(0:Int) else(2:Int),bif [x0,x1,x2,x3,x4,x5,x6,x7].all sampleG then(0:Int) else(2:Int)]))) []):=by kernel_rfl
theorem ex79(c ch x0 x1 x2 x3 x4 x5 x6 x7 sm:Int)(K:AV→List Blk→Prop):evFn E79 Tryz.f64 [.agg [.int .i64 c,.int .i64 ch,.int .i64 x0,.int .i64 x1,.int .i64 x2,.int .i64 x3,.int .i64 x4,.int .i64 x5,.int .i64 x6,.int .i64 x7,.int .i64 sm]] [] K=(K (.one (.int .i64 ((IntKind.i64.wrap (IntKind.i64.wrap (IntKind.i64.wrap (IntKind.i64.wrap (IntKind.i64.wrap (IntKind.i64.wrap (IntKind.i64.wrap (IntKind.i64.wrap (IntKind.i64.wrap (IntKind.i64.wrap (9*c)+IntKind.i64.wrap (10*ch))+IntKind.i64.wrap (1*IntKind.i64.wrap (x0+32768)))+IntKind.i64.wrap (2*IntKind.i64.wrap (x1+32768)))+IntKind.i64.wrap (3*IntKind.i64.wrap (x2+32768)))+IntKind.i64.wrap (4*IntKind.i64.wrap (x3+32768)))+IntKind.i64.wrap (5*IntKind.i64.wrap (x4+32768)))+IntKind.i64.wrap (6*IntKind.i64.wrap (x5+32768)))+IntKind.i64.wrap (7*IntKind.i64.wrap (x6+32768)))+IntKind.i64.wrap (8*IntKind.i64.wrap (x7+32768)))).tmod 65537))) []):=by kernel_rfl
theorem ex20(c ch x0 x1 x2 x3 x4 x5 x6 x7 sm:Int)(K:AV→List Blk→Prop):evFn E20 Tryz.f34 [.agg [.int .i64 c,.int .i64 ch,.int .i64 x0,.int .i64 x1,.int .i64 x2,.int .i64 x3,.int .i64 x4,.int .i64 x5,.int .i64 x6,.int .i64 x7,.int .i64 sm]] [] K=(bif (bif contentG c ch [x0,x1,x2,x3,x4,x5,x6,x7] then(0:Int) else(2:Int))!=0 then K (AV.tup [.one (.int .i64 0),.one (.int .i64 (bif contentG c ch [x0,x1,x2,x3,x4,x5,x6,x7] then(0:Int) else(2:Int)))]) [] else contentG c ch [x0,x1,x2,x3,x4,x5,x6,x7]=true∧K (AV.tup [.one (.int .i64 (sumG c ch [x0,x1,x2,x3,x4,x5,x6,x7])),.one (.int .i64 0)]) []):=by kernel_rfl
theorem ex30(a b:List Int)(K:AV→List Blk→Prop):evFn E30 Tryz.f29 [.one (.data (.ints .i64 a)),.one (.data (.ints .i64 b))] [] K=(bif (↑(Row.ints .i64 a).count:Int)!=(↑(Row.ints .i64 b).count:Int) then K (.one (.bool false)) [] else(a.length≤1000000000∧a.length=b.length∧(0:Int)≤(0:Int))∧bif List.drop 0 a==List.drop 0 b then K (.one (.bool true)) [] else K (.one (.bool false)) []):=by kernel_rfl
theorem ex30a(a b:List Int)(i:Int)(K:Ex→List AV→List Blk→Prop):evBody E30 (lb Tryz.f29 0) [0,1,5] [4] [.one (.data (.ints .i64 a)),.one (.data (.ints .i64 b)),.one (.int .i64 i)] [] K=(bif decide (i<(↑(Row.ints .i64 a).count:Int)) then bif decide (0≤i)&&decide (i<(↑(Row.ints .i64 a).count:Int)) then bif (Row.ints .i64 a).hasN i.toNat 0 1 then bif decide (0≤i)&&decide (i<(↑(Row.ints .i64 b).count:Int)) then bif (Row.ints .i64 b).hasN i.toNat 0 1 then bif a.getD (i.toNat+0) 0 != b.getD (i.toNat+0) 0 then K .ret [.one (.bool false)] [] else K .normal [.one (.data (Row.ints .i64 a)),.one (.data (Row.ints .i64 b)),.one (.int .i64 (IntKind.i64.wrap (i+1)))] [] else False else False else False else False else K (.exit 0) [AV.any] []):=by kernel_rfl
end Go.Ev
namespace Go.Ev
open Go Go.Proofs
attribute [local irreducible] evFn evBody evRound
set_option maxRecDepth 20000
theorem ok92:SpecOK Tryz.prog 60 sampleS:=by
 refine specOK (n:=6) (m:=0) (lps:=[]) (.cons ok71 (.cons ok70 .nil)) Tryz.func60 (by kernel_rfl) (by kernel_rfl) (noLoops (by kernel_rfl)) fun args σ K h=> ?_
 unfold sampleS at h
 split at h
 ·exact(ex92 _ K).mpr h
 ·exact h.elim
theorem ok93:SpecOK Tryz.prog 61 channelS:=by
 refine specOK (n:=6) (m:=0) (lps:=[]) (.cons ok71 (.cons ok70 .nil)) Tryz.func61 (by kernel_rfl) (by kernel_rfl) (noLoops (by kernel_rfl)) fun args σ K h=> ?_
 unfold channelS at h
 split at h
 ·exact(ex93 _ K).mpr h
 ·exact h.elim
theorem ok94:SpecOK Tryz.prog 62 counterS:=by
 refine specOK (n:=5) (m:=0) (lps:=[]) (.cons ok71 .nil) Tryz.func62 (by kernel_rfl) (by kernel_rfl) (noLoops (by kernel_rfl)) fun args σ K h=> ?_
 unfold counterS at h
 split at h
 ·exact(ex94 _ K).mpr h
 ·exact h.elim
theorem ok97:SpecOK Tryz.prog 86 residueS:=by
 refine specOK (n:=5) (m:=0) (lps:=[]) (.cons ok71 .nil) Tryz.func86 (by kernel_rfl) (by kernel_rfl) (noLoops (by kernel_rfl)) fun args σ K h=> ?_
 unfold residueS at h
 split at h
 ·exact(ex97 _ K).mpr h
 ·exact h.elim
theorem tmod_range(n:Int): -65537<n.tmod 65537∧n.tmod 65537<65537:=by
 constructor
 ·have:=Int.lt_tmod_of_pos n (show(0:Int)<65537 by decide)
  omega
 ·exact Int.tmod_lt_of_pos n (by decide)
theorem modG_range(n:Int):0≤modG n∧modG n<65537:=by
 unfold modG
 have:=tmod_range n
 exact⟨Int.tmod_nonneg _ (by omega),Int.tmod_lt_of_pos _ (by decide)⟩
theorem ok116:SpecOK Tryz.prog 82 moduloS:=by
 refine specOK (n:=7) (m:=0) (lps:=[]) .nil Tryz.func82 (by kernel_rfl) (by kernel_rfl) (noLoops (by kernel_rfl)) fun args σ K h=> ?_
 unfold moduloS at h
 split at h
 ·rename_i n
  refine(ex116 _ K).mpr ?_
  have:=tmod_range n
  rw[wrap_id (by omega) (by omega)]
  exact h
 ·exact h.elim
theorem mul_range{a b:Int}(h:0≤a∧a<65537∧0≤b∧b<65537):0≤a*b∧a*b<4295098369:=by
 obtain⟨h1,h2,h3,h4⟩:=h
 refine⟨Int.mul_nonneg h1 h3,?_⟩
 have e1:a*b≤65536*b:=Int.mul_le_mul_of_nonneg_right (by omega) h3
 omega
theorem ok130:SpecOK Tryz.prog 107 timesS:=by
 refine specOK (n:=9) (m:=0) (lps:=[]) (.cons ok116 .nil) Tryz.func107 (by kernel_rfl) (by kernel_rfl) (noLoops (by kernel_rfl)) fun args σ K h=> ?_
 unfold timesS at h
 split at h
 ·rename_i a b
  refine(ex130 _ _ K).mpr ?_
  have:=mul_range h.1
  rw[wrap_id (by omega) (by omega)]
  exact h.2
 ·exact h.elim
theorem lok98:LoopOK E98 (lb Tryz.f87 0) [3,4,5] [3] invL:=by
 refine loopOK (.cons ok130 .nil) (noInner (by kernel_rfl)) (fun vs _=>match vs with
  |[_,_,.one (.int .i64 n)]=>n.toNat
  |_=>0) fun vs σ k h=> ?_
 unfold invL at h
 split at h
 ·rename_i a b n
  obtain⟨⟨h1,h2,h3,h4,h5,h6⟩,h⟩:=h
  refine(ex98a a b n _).mpr ?_
  by_cases hn:n>0
  ·rw[invF,if_neg (by omega)] at h
   have hd:n.tdiv 2=n/2:=Int.tdiv_eq_ediv_of_nonneg h5
   have hm:n.tmod 2=n%2:=Int.tmod_eq_emod_of_nonneg h5
   have hw:IntKind.i64.wrap (n/2)=n/2:=wrap_id (by omega) (by omega)
   have hq:(n/2).toNat=n.toNat/2:=by omega
   have r1:=modG_range (a*b)
   have r2:=modG_range (b*b)
   rw[decide_eq_true hn,hd,hm,hw]
   by_cases ho:n%2=1
   ·have ho':n.toNat%2=1:=by omega
    rw[if_pos ho'] at h
    simp only[ho,beq_self_eq_true,cond_true]
    refine⟨⟨h1,h2,h3,h4⟩,⟨h3,h4,h3,h4⟩,⟨⟨r1.1,r1.2,r2.1,r2.2,by omega,by omega⟩,?_⟩,by omega⟩
    rw[hq]
    exact h
   ·have ho':¬n.toNat%2=1:=by omega
    rw[if_neg ho'] at h
    have hb:(n%2==1)=false:=beq_eq_false_iff_ne.2 ho
    simp only[hb,cond_true,cond_false]
    refine⟨⟨h3,h4,h3,h4⟩,⟨⟨h1,h2,r2.1,r2.2,by omega,by omega⟩,?_⟩,by omega⟩
    rw[hq]
    exact h
  ·have e:n.toNat=0:=by omega
   rw[e,invF,if_pos rfl] at h
   rw[decide_eq_false hn]
   exact h
 ·exact h.elim
theorem ok98:SpecOK Tryz.prog 87 inverseS:=by
 refine specOK (n:=21) (m:=0) (lps:=[(3,.spec [3,4,5] [3] invL)]) (.cons ok130 .nil) Tryz.func87 (by kernel_rfl) (by kernel_rfl) (theLoops (n:=1) (by kernel_rfl) fun i hi=> ?_) fun args σ K h=> ?_
 ·match i,hi with
  |0,_=>exact loopHyp_of (key:=3) (by kernel_rfl) rfl lok98
 ·unfold inverseS at h
  split at h
  ·rename_i a
   refine(ex98 _ K).mpr ⟨⟨by omega,by omega,h.1.1,h.1.2,by omega,by omega⟩,h.2⟩
  ·exact h.elim
theorem ok39:SpecOK Tryz.prog 33 inverseOfS:=by
 refine specOK (n:=18) (m:=0) (lps:=[]) (.cons ok97 (.cons ok70 (.cons ok69 (.cons ok98 .nil)))) Tryz.func33 (by kernel_rfl) (by kernel_rfl) (noLoops (by kernel_rfl)) fun args σ K h=> ?_
 unfold inverseOfS at h
 split at h
 ·rename_i n
  refine(ex39 _ K).mpr ⟨by simp,?_⟩
  cases hw:withinG n 0 65536 with
  |false=>rw[hw] at h;exact h
  |true=>
   rw[hw] at h
   unfold withinG at hw
   simp only[Bool.and_eq_true,decide_eq_true_eq] at hw
   cases hz:n==0 with
   |true=>
    rw[hz] at h
    simp only[bne,hz]
    exact h
   |false=>
    rw[hz] at h
    simp only[bne,hz]
    exact⟨⟨by omega,by omega⟩,h⟩
 ·exact h.elim
theorem all_step{p:Int→Bool}{l:List Int}{i:Int}(h0:0≤i)(h:i<l.length):(l.drop i.toNat).all p=(p (l.getD i.toNat 0)&&(l.drop (i+1).toNat).all p):=by
 rw[drop_step 0 (by omega),show(i+1).toNat=i.toNat+1 by omega]
 rfl
theorem lok91:LoopOK E91 (lb Tryz.f59 0) [1,8,9,10] [4] eachL:=by
 refine loopOK (.cons ok92 .nil) (noInner (by kernel_rfl)) (fun vs _=>match vs with
  |[_,.one (.data (.ints .i64 l)),_,.one (.int .i64 i)]=>l.length-i.toNat
  |_=>0) fun vs σ k h=> ?_
 unfold eachL at h
 split at h
 ·rename_i l n i
  obtain⟨⟨h1,h2,rfl⟩,h⟩:=h
  refine(ex91a l _ i _).mpr ?_
  simp only[count_ints,hasN_one,has_ints,Nat.add_zero]
  by_cases hi:i<l.length
  ·have hw:IntKind.i64.wrap (i+1)=i+1:=wrap_id (by omega) (by omega)
   have hi':i.toNat<l.length:=by omega
   rw[all_step h2 hi] at h
   simp only[hi,hi',h2,hw,decide_true,Bool.and_self,cond_true]
   cases hs:sampleG (l.getD i.toNat 0) with
   |true=>
    rw[hs] at h
    exact⟨⟨⟨h1,by omega,rfl⟩,h⟩,by first|omega|(dsimp only;omega)⟩
   |false=>rw[hs] at h;exact h
  ·rw[List.drop_eq_nil_of_le (by omega)] at h
   simp only[hi,decide_false,cond_false]
   exact h
 ·exact h.elim
theorem ok91:SpecOK Tryz.prog 59 eachS:=by
 refine specOK (n:=21) (m:=0) (lps:=[(2,.spec [1,8,9,10] [4] eachL)]) (.cons ok92 .nil) Tryz.func59 (by kernel_rfl) (by kernel_rfl) (theLoops (n:=1) (by kernel_rfl) fun i hi=> ?_) fun args σ K h=> ?_
 ·match i,hi with
  |0,_=>exact loopHyp_of (key:=2) (by kernel_rfl) rfl lok91
 ·unfold eachS at h
  split at h
  ·rename_i l
   refine(ex91 l K).mpr ⟨⟨h.1,by omega,rfl⟩,?_⟩
   obtain⟨_,h⟩:=h
   simp only[List.drop_zero]
   cases hs:l.all sampleG<;>rw[hs] at h<;>exact h
  ·exact h.elim
theorem ok82:SpecOK Tryz.prog 65 samplesS:=by
 refine specOK (n:=5) (m:=0) (lps:=[]) (.cons ok91 .nil) Tryz.func65 (by kernel_rfl) (by kernel_rfl) (noLoops (by kernel_rfl)) fun args σ K h=> ?_
 unfold samplesS at h
 split at h
 ·exact(ex82 _ _ _ _ _ _ _ _ K).mpr ⟨by simp,h⟩
 ·exact h.elim
theorem ok78:SpecOK Tryz.prog 88 contentS:=by
 refine specOK (n:=15) (m:=0) (lps:=[]) (.cons ok94 (.cons ok93 (.cons ok70 (.cons ok69 (.cons ok82 .nil))))) Tryz.func88 (by kernel_rfl) (by kernel_rfl) (noLoops (by kernel_rfl)) fun args σ K h=> ?_
 unfold contentS at h
 split at h
 ·rename_i c ch x0 x1 x2 x3 x4 x5 x6 x7 sm
  refine(ex78 _ _ _ _ _ _ _ _ _ _ sm K).mpr ⟨by simp,?_⟩
  unfold contentG at h
  revert h
  generalize withinG c 0 65535=b1
  generalize withinG ch 0 3=b2
  generalize [x0,x1,x2,x3,x4,x5,x6,x7].all sampleG=b3
  cases b1<;>cases b2<;>cases b3<;>exact id
 ·exact h.elim
theorem sample_range{n:Int}(h:sampleG n=true): -32767≤n∧n≤32767:=by
 unfold sampleG withinG at h
 simpa using h
theorem ok79:SpecOK Tryz.prog 64 sumS:=by
 refine specOK (n:=29) (m:=0) (lps:=[(3,.unroll 9)]) .nil Tryz.func64 (by kernel_rfl) (by kernel_rfl) (theLoops (n:=1) (by kernel_rfl) fun i hi=> ?_) fun args σ K h=> ?_
 ·match i,hi with
  |0,_=>exact loopHyp_none (key:=3) (n:=9) (by kernel_rfl) rfl
 unfold sumS at h
 split at h
 ·rename_i c ch x0 x1 x2 x3 x4 x5 x6 x7 sm
  have e79:=ex79 c ch x0 x1 x2 x3 x4 x5 x6 x7 sm K
  unfold E79 at e79
  rw[e79]
  clear e79
  obtain⟨hc,h⟩:=h
  unfold contentG withinG at hc
  simp only[Bool.and_eq_true,decide_eq_true_eq,List.all_cons,List.all_nil,and_true] at hc
  obtain⟨⟨⟨a1,a2⟩,⟨b1,b2⟩⟩,s0,s1,s2,s3,s4,s5,s6,s7⟩:=hc
  have r0:=sample_range s0
  have r1:=sample_range s1
  have r2:=sample_range s2
  have r3:=sample_range s3
  have r4:=sample_range s4
  have r5:=sample_range s5
  have r6:=sample_range s6
  have r7:=sample_range s7
  simp(disch:=omega) only [wrap_id]
  have e:(9*c+10*ch+1*(x0+32768)+2*(x1+32768)+3*(x2+32768)+4*(x3+32768)+5*(x4+32768)+6*(x5+32768)+7*(x6+32768)+8*(x7+32768))=9*c+10*ch+sumA 1 [x0,x1,x2,x3,x4,x5,x6,x7]:=by
   simp only[sumA]
   omega
  rw[e]
  exact h
 ·exact h.elim
theorem ok20:SpecOK Tryz.prog 34 sumOfS:=by
 refine specOK (n:=12) (m:=0) (lps:=[]) (.cons ok78 (.cons ok79 .nil)) Tryz.func34 (by kernel_rfl) (by kernel_rfl) (noLoops (by kernel_rfl)) fun args σ K h=> ?_
 unfold sumOfS at h
 split at h
 ·rename_i c ch x0 x1 x2 x3 x4 x5 x6 x7 sm
  refine(ex20 _ _ _ _ _ _ _ _ _ _ sm K).mpr ?_
  cases hc:contentG c ch [x0,x1,x2,x3,x4,x5,x6,x7] with
  |false=>rw[hc] at h;exact h
  |true=>rw[hc] at h;exact⟨rfl,h⟩
 ·exact h.elim
theorem lok30:LoopOK E30 (lb Tryz.f29 0) [0,1,5] [4] intsL:=by
 refine loopOK .nil (noInner (by kernel_rfl)) (fun vs _=>match vs with
  |[.one (.data (.ints .i64 l)),_,.one (.int .i64 i)]=>l.length-i.toNat
  |_=>0) fun vs σ k h=> ?_
 unfold intsL at h
 split at h
 ·rename_i a b i
  obtain⟨⟨h1,h2,h3⟩,h⟩:=h
  refine(ex30a a b i _).mpr ?_
  simp only[count_ints,hasN_one,has_ints,Nat.add_zero]
  by_cases hi:i<a.length
  ·have hw:IntKind.i64.wrap (i+1)=i+1:=wrap_id (by omega) (by omega)
   have hi':i.toNat<a.length:=by omega
   have hj:i<b.length:=by omega
   have hj':i.toNat<b.length:=by omega
   rw[drop_step 0 hi',drop_step 0 hj',show i.toNat+1=(i+1).toNat by omega,List.cons_beq_cons] at h
   simp only[hi,hi',hj,hj',h3,hw,decide_true,Bool.and_self,cond_true,bne]
   cases hs:a.getD i.toNat 0==b.getD i.toNat 0 with
   |true=>
    rw[hs,Bool.true_and] at h
    exact⟨⟨⟨h1,h2,by omega⟩,h⟩,by first|omega|(dsimp only;omega)⟩
   |false=>rw[hs] at h;exact h
  ·rw[List.drop_eq_nil_of_le (by omega),List.drop_eq_nil_of_le (by omega)] at h
   simp only[hi,decide_false,cond_false]
   exact h
 ·exact h.elim
theorem ok30:SpecOK Tryz.prog 29 intsS:=by
 refine specOK (n:=26) (m:=0) (lps:=[(4,.spec [0,1,5] [4] intsL)]) .nil Tryz.func29 (by kernel_rfl) (by kernel_rfl) (theLoops (n:=1) (by kernel_rfl) fun i hi=> ?_) fun args σ K h=> ?_
 ·match i,hi with
  |0,_=>exact loopHyp_of (key:=4) (by kernel_rfl) rfl lok30
 ·unfold intsS at h
  split at h
  ·rename_i a b
   refine(ex30 a b K).mpr ?_
   obtain⟨h1,h⟩:=h
   simp only[count_ints,bne]
   by_cases hl:a.length=b.length
   ·have e:((a.length:Int)==(b.length:Int))=true:=by simp[hl]
    rw[e]
    refine⟨⟨h1,hl,by omega⟩,?_⟩
    simp only[List.drop_zero]
    cases hs:a==b<;>rw[hs] at h<;>exact h
   ·have e:((a.length:Int)==(b.length:Int))=false:=by simp;omega
    have e2:(a==b)=false:=beq_eq_false_iff_ne.2 fun hh=>hl (by rw[hh])
    rw[e2] at h
    rw[e]
    exact h
  ·exact h.elim
end Go.Ev
namespace Go.Ev
open Go Go.Proofs
set_option maxRecDepth 20000
def expG(p last bef:Int):Int:=bif p==1 then last else bif p==2 then wi (wi (2*last)-bef) else 0
def expectedS:Spec:=fun args σ K=>match args,σ with
 |[.one (.int .i64 p),.one (.int .i64 l),.one (.int .i64 b)],[]=>K (.one (.int .i64 (expG p l b))) []
 |_,_=>False
def foldG(r:Int):Int:=bif decide (r≥0) then wi (2*r) else wi (wi (-2*r)-1)
def codR(p:Int):Int→Int→List Int→List Int
 |_,_,[]=>[]
 |last,bef,n::l=>foldG (wi (n-expG p last bef))::codR p n last l
def codG(p:Int)(xs:List Int):List Int:=codR p 0 0 xs
def ag8(ys:List Int):AV:= .agg [.int .i64 (ys.getD 0 0),.int .i64 (ys.getD 1 0),.int .i64 (ys.getD 2 0),.int .i64 (ys.getD 3 0),.int .i64 (ys.getD 4 0),.int .i64 (ys.getD 5 0),.int .i64 (ys.getD 6 0),.int .i64 (ys.getD 7 0)]
def codL:LSpec:=fun vs σ k=>match vs,σ with
 |[.one (.int .i64 p),.one (.ptr 0 1 0 0),.one (.ptr 1 1 0 0),.one (.int .i64 last),.one (.int .i64 bef),.agg [.int .i64 x0,.int .i64 x1,.int .i64 x2,.int .i64 x3,.int .i64 x4,.int .i64 x5,.int .i64 x6,.int .i64 x7],.one (.int .i64 i)],[.row 119 (.ints .i64 z),.row 119 (.ints .i64 out)]=>
  (0≤i∧i≤8∧out.length=8)∧k (.exit 0) [.one (.ptr 0 1 0 0),.one (.ptr 1 1 0 0)] [.row 119 (.ints .i64 z),.row 119 (.ints .i64 (out.take i.toNat++codR p last bef ([x0,x1,x2,x3,x4,x5,x6,x7].drop i.toNat)))]
 |_,_=>False
def codedS:Spec:=fun args σ K=>match args,σ with
 |[.agg [.int .i64 x0,.int .i64 x1,.int .i64 x2,.int .i64 x3,.int .i64 x4,.int .i64 x5,.int .i64 x6,.int .i64 x7],.one (.int .i64 p)],[]=>K (ag8 (codG p [x0,x1,x2,x3,x4,x5,x6,x7])) []
 |_,_=>False
def shrG(u k:Int):Int:=u.fdiv (2^min k.toNat 64)
def lenR(k:Int):List Int→Int
 |[]=>0
 |u::l=>(shrG u k+1+k)+lenR k l
def lenG(p k:Int)(xs:List Int):Int:=7+lenR k (codG p xs)
def lengthS:Spec:=fun args σ K=>match args,σ with
 |[.agg [.int .i64 x0,.int .i64 x1,.int .i64 x2,.int .i64 x3,.int .i64 x4,.int .i64 x5,.int .i64 x6,.int .i64 x7],.one (.int .i64 p),.one (.int .i64 k)],[]=>([x0,x1,x2,x3,x4,x5,x6,x7].all sampleG=true∧0≤k∧k≤17)∧K (.one (.int .i64 (lenG p k [x0,x1,x2,x3,x4,x5,x6,x7]))) []
 |_,_=>False
def bitG(n:Int)(i:Nat):Int:=wi (BitVec.ofInt 64 (n.fdiv (2^min i 64)) &&& BitVec.ofInt 64 1).toNat
def bitsN(n:Int):Nat→List Int
 |0=>[]
 |c+1=>bitG n c::bitsN n c
def wrL1:LSpec:=fun vs σ k=>match vs,σ with
 |[.one (.ptr 0 1 0 0),.one (.int .i64 n),.one (.int .i64 i)],[.cells [.nil]]=>
  (-1≤i∧i≤100)∧bif decide (i≥0) then k (.exit 0) [] [.cells [.own 1 1],.row 3 (.ints .i64 (bitsN n (i+1).toNat))] else k (.exit 0) [] [.cells [.nil]]
 |[.one (.ptr 0 1 0 0),.one (.int .i64 n),.one (.int .i64 i)],[.cells [.own 1 1],.row 3 (.ints .i64 xs)]=>
  (-1≤i∧i≤100∧(xs.length:Int)+i≤2000000000)∧k (.exit 0) [] [.cells [.own 1 1],.row 3 (.ints .i64 (xs++bitsN n (i+1).toNat))]
 |_,_=>False
def wrL2:LSpec:=fun vs σ k=>match vs,σ with
 |[.one (.ptr 0 1 0 0),.one (.int .i64 n),.one (.int .i64 i)],[.cells [.own 1 1],.row 3 (.ints .i64 xs)]=>
  (-1≤i∧i≤100∧(xs.length:Int)+i≤2000000000)∧bif decide (i≥0) then k (.exit 0) [] [.cells [.own 2 1],.dead,.row 3 (.ints .i64 (xs++bitsN n (i+1).toNat))] else k (.exit 0) [] [.cells [.own 1 1],.row 3 (.ints .i64 xs)]
 |[.one (.ptr 0 1 0 0),.one (.int .i64 n),.one (.int .i64 i)],[.cells [.own 2 1],.dead,.row 3 (.ints .i64 xs)]=>
  (-1≤i∧i≤100∧(xs.length:Int)+i≤2000000000)∧k (.exit 0) [] [.cells [.own 2 1],.dead,.row 3 (.ints .i64 (xs++bitsN n (i+1).toNat))]
 |_,_=>False
def writeS1:Spec:=fun args σ K=>match args,σ with
 |[.one (.ptr 0 1 0 0),.one (.int .i64 n),.one (.int .i64 c)],[.cells [.nil]]=>
  (0≤c∧c≤100)∧bif decide (c>0) then K (.tup []) [.cells [.own 1 1],.row 3 (.ints .i64 (bitsN n c.toNat))] else K (.tup []) [.cells [.nil]]
 |_,_=>False
def writeS2:Spec:=fun args σ K=>match args,σ with
 |[.one (.ptr 0 1 0 0),.one (.int .i64 n),.one (.int .i64 c)],[.cells [.own 1 1],.row 3 (.ints .i64 xs)]=>
  (0≤c∧c≤100∧xs.length≤1000000000)∧bif decide (c>0) then K (.tup []) [.cells [.own 2 1],.dead,.row 3 (.ints .i64 (xs++bitsN n c.toNat))] else K (.tup []) [.cells [.own 1 1],.row 3 (.ints .i64 xs)]
 |_,_=>False
def byS(S T:Spec):Spec:=fun args σ K=>match σ with
 |[_]=>S args σ K
 |_=>T args σ K
def mul64S:Spec:=fun args σ K=>match args,σ with
 |[.one (.int .u64 x),.one (.int .u64 y)],[]=>(0≤x∧x≤2147483647∧0≤y∧y≤2147483647)∧K (.tup [.one (.int .u64 0),.one (.int .u64 (x*y))]) []
 |_,_=>False
def repL:LSpec:=fun vs σ k=>match vs,σ with
 |[.one (.own 0 1),.one (.int .i64 n)],[.row 3 (.ints .i64 xs)]=>
  (0≤n∧n≤xs.length∧(0<n∨xs.length=0)∧xs.length≤1000000000∧xs.take n.toNat=List.replicate n.toNat (xs.getD 0 0))∧k (.exit 0) [.one (.own 0 1)] [.row 3 (.ints .i64 (List.replicate xs.length (xs.getD 0 0)))]
 |_,_=>False
def repeatS:Spec:=fun args σ K=>match args,σ with
 |[.one (.data (.ints .i64 [x])),.one (.int .i64 c)],[]=>(0≤c∧c≤1000000000)∧K (.one (.own 0 1)) [.row 3 (.ints .i64 (List.replicate c.toNat x))]
 |_,_=>False
noncomputable abbrev E106:Env:=envOf Tryz.prog [] [] 17 0
noncomputable abbrev E85:Env:=envOf Tryz.prog [(74,expectedS)] [(4,.spec [1,4,5,6,7,11,12] [4,5] codL)] 37 0
noncomputable abbrev E83:Env:=envOf Tryz.prog [(68,codedS)] [(3,.unroll 9)] 26 0
noncomputable abbrev E84a:Env:=envOf Tryz.prog [] [(1,.spec [0,1,6] [] wrL1)] 24 1
noncomputable abbrev E84b:Env:=envOf Tryz.prog [] [(1,.spec [0,1,6] [] wrL2)] 24 2
noncomputable abbrev E139:Env:=envOf Tryz.prog [] [] 51 0
noncomputable abbrev E127:Env:=envOf Tryz.prog [(127,mul64S)] [] 30 0
noncomputable abbrev E86:Env:=envOf Tryz.prog [(104,mul64S)] [(8,.spec [7,8] [7] repL)] 48 0
end Go.Ev
