/-
  Part of the proof that TopClickOnly holds.
-/
import Derived.Test.YtgkngjjnpiheoaaT16
import Derived.KernelRfl
set_option linter.unusedVariables false
set_option linter.unusedSimpArgs false
set_option linter.unusedSectionVars false
namespace Go.Ev
open Go Go.Proofs
set_option maxRecDepth 100000
theorem excpi(l:List Int)(K:AV→List Blk→Prop):evFn Ecpi Try.f10 [.one (.data (.ints .i64 l))] [] K=(bif decide (l.length*8≤140737488355328∧l.length≤140737488355328) then K (.one (.own 0 1)) [Blk.row 3 (Row.ints .i64 l)] else False):=by kernel_rfl
theorem excln(l:List Int)(K:AV→List Blk→Prop):evFn Ecln Try.f36 [.one (.data (.ints .i64 l))] [] K=(bif decide (l.length=0) then K (.one .nil) []∧bif decide (l.length*8≤140737488355328∧l.length≤140737488355328) then K (.one (.own 0 1)) [Blk.row 3 (Row.ints .i64 l)] else False else bif decide (l.length*8≤140737488355328∧l.length≤140737488355328) then K (.one (.own 0 1)) [Blk.row 3 (Row.ints .i64 l)] else False):=by kernel_rfl
theorem excph(p hh:Int)(t:List Int)(K:AV→List Blk→Prop):evFn Ecph Try.f9 [.agg [.int .i64 p,.int .i64 hh,.data (.ints .i64 t)]] [] K=(t.length≤1000000∧K (AV.agg [SV.int .i64 p,SV.int .i64 hh,SV.own 0 1]) [Blk.row 3 (Row.ints .i64 t)]):=by kernel_rfl
theorem excmb(p hh:Int)(t x:List Int)(tm:Int)(K:AV→List Blk→Prop):evFn Ecmb Try.f20 [.agg [.int .i64 p,.int .i64 hh,.data (.ints .i64 t)],.one (.data (.ints .i64 x)),.one (.int .i64 tm)] [] K=(t.length≤1000000∧x.length≤1000000∧[humE p hh t,errE x].length≤1000∧bif firstE [humE p hh t,errE x]!=0 then K (AV.tup [.one .nil,.one (.int .i64 (firstE [humE p hh t,errE x]))]) [] else(((tm=1∨tm=(-1:Int))∧(↑x.length:Int)=(↑x.length:Int)∧x.length≤200∧x.all sampleG=true∧1≤p∧p≤64∧0≤hh∧hh<p∧(↑t.length:Int)=p∧t.all greatG=true∧(0:Int)≤(0:Int)∧0≤(↑x.length:Int))∧(0:Int)=(0:Int))∧bif (cmbF p hh t tm 0 x).all sampleG then bif x.isEmpty then K (AV.tup [.one .nil,.one (.int .i64 0)]) [] else K (AV.tup [.one (.own 0 1),.one (.int .i64 0)]) [Blk.row 3 (Row.ints .i64 (cmbF p hh t tm 0 x))] else ∀(v:AV) (σ':List Blk),K (AV.tup [.one .nil,.one (.int .i64 23)]) []):=by kernel_rfl
theorem excmbl0a(tm:Int)(x:List Int)(n i p hh:Int)(t:List Int)(K:Ex→List AV→List Blk→Prop):evBody Ecmb (lb Try.f20 0) [2,3,9,21,22,23] [6,7,9] [.one (.int .i64 tm),.one (.ptr 0 1 0 0),.one .nil,.one (.data (.ints .i64 x)),.one (.int .i64 n),.one (.int .i64 i)] [.cells [.int .i64 p,.int .i64 hh,.data (.ints .i64 t)]] K=(bif decide (i<n) then bif decide (0≤i)&&decide (i<(↑x.length:Int)) then bif decide (i.toNat+0<x.length) then bif !decide (p=0) then bif decide (0≤(IntKind.i64.wrap (i+hh)).tmod p)&&decide ((IntKind.i64.wrap (i+hh)).tmod p<(↑t.length:Int)) then bif decide (((IntKind.i64.wrap (i+hh)).tmod p).toNat+0<t.length) then((0:Int)≤(32767:Int)∧(32767:Int)≤(1000000000:Int))∧bif !withinG (IntKind.i64.wrap (x.getD (i.toNat+0) 0+IntKind.i64.wrap (tm*t.getD (((IntKind.i64.wrap (i+hh)).tmod p).toNat+0) 0))) (-32767:Int) 32767 then K .ret [.one .nil,.one (.int .i64 23),.one .nil] [] else K .normal [.one (.int .i64 tm),.one (.ptr 0 1 0 0),.one (.own 1 1),.one (.data (Row.ints .i64 x)),.one (.int .i64 n),.one (.int .i64 (IntKind.i64.wrap (i+1)))] [Blk.cells [SV.int .i64 p,SV.int .i64 hh,SV.data (Row.ints .i64 t)],Blk.row 3 (Row.ints .i64 [IntKind.i64.wrap (x.getD (i.toNat+0) 0+IntKind.i64.wrap (tm*t.getD (((IntKind.i64.wrap (i+hh)).tmod p).toNat+0) 0))])] else False else False else False else False else False else K (.exit 0) [AV.any,AV.any,.one .nil] []):=by kernel_rfl
theorem excmbl0b(tm:Int)(x:List Int)(n i p hh:Int)(t out:List Int)(K:Ex→List AV→List Blk→Prop):evBody Ecmb (lb Try.f20 0) [2,3,9,21,22,23] [6,7,9] [.one (.int .i64 tm),.one (.ptr 0 1 0 0),.one (.own 1 1),.one (.data (.ints .i64 x)),.one (.int .i64 n),.one (.int .i64 i)] [.cells [.int .i64 p,.int .i64 hh,.data (.ints .i64 t)],.row 3 (.ints .i64 out)] K=(bif decide (i<n) then bif decide (0≤i)&&decide (i<(↑x.length:Int)) then bif decide (i.toNat+0<x.length) then bif !decide (p=0) then bif decide (0≤(IntKind.i64.wrap (i+hh)).tmod p)&&decide ((IntKind.i64.wrap (i+hh)).tmod p<(↑t.length:Int)) then bif decide (((IntKind.i64.wrap (i+hh)).tmod p).toNat+0<t.length) then((0:Int)≤(32767:Int)∧(32767:Int)≤(1000000000:Int))∧bif !withinG (IntKind.i64.wrap (x.getD (i.toNat+0) 0+IntKind.i64.wrap (tm*t.getD (((IntKind.i64.wrap (i+hh)).tmod p).toNat+0) 0))) (-32767:Int) 32767 then K .ret [.one .nil,.one (.int .i64 23),.one (.own 0 1)] [Blk.row 3 (Row.ints .i64 out)] else bif decide ((out++[IntKind.i64.wrap (x.getD (i.toNat+0) 0+IntKind.i64.wrap (tm*t.getD (((IntKind.i64.wrap (i+hh)).tmod p).toNat+0) 0))]).length*8≤140737488355328∧(out++[IntKind.i64.wrap (x.getD (i.toNat+0) 0+IntKind.i64.wrap (tm*t.getD (((IntKind.i64.wrap (i+hh)).tmod p).toNat+0) 0))]).length≤140737488355328) then K .normal [.one (.int .i64 tm),.one (.ptr 0 1 0 0),.one (.own 1 1),.one (.data (Row.ints .i64 x)),.one (.int .i64 n),.one (.int .i64 (IntKind.i64.wrap (i+1)))] [Blk.cells [SV.int .i64 p,SV.int .i64 hh,SV.data (Row.ints .i64 t)],Blk.row 3 (Row.ints .i64 (out++[IntKind.i64.wrap (x.getD (i.toNat+0) 0+IntKind.i64.wrap (tm*t.getD (((IntKind.i64.wrap (i+hh)).tmod p).toNat+0) 0))]))] else False else False else False else False else False else False else K (.exit 0) [AV.any,AV.any,.one (.own 0 1)] [Blk.row 3 (Row.ints .i64 out)]):=by kernel_rfl
theorem exadd(p hh:Int)(t x:List Int)(K:AV→List Blk→Prop):evFn Eadd Try.f8 [.agg [.int .i64 p,.int .i64 hh,.data (.ints .i64 t)],.one (.data (.ints .i64 x))] [] K=((t.length≤1000000∧x.length≤1000000∧((1:Int)=(1:Int)∨(1:Int)=(-1:Int)))∧bif cmbE p hh t 1 x==0 then bif x.isEmpty then K (AV.tup [.one .nil,.one (.int .i64 0)]) [] else K (AV.tup [.one (.own 0 1),.one (.int .i64 0)]) [Blk.row 3 (Row.ints .i64 (cmbF p hh t 1 0 x))] else K (AV.tup [.one .nil,.one (.int .i64 (cmbE p hh t 1 x))]) []):=by kernel_rfl
theorem exrem(p hh:Int)(t x:List Int)(K:AV→List Blk→Prop):evFn Erem Try.f12 [.agg [.int .i64 p,.int .i64 hh,.data (.ints .i64 t)],.one (.data (.ints .i64 x))] [] K=((t.length≤1000000∧x.length≤1000000∧((-1:Int)=(1:Int)∨(-1:Int)=(-1:Int)))∧bif cmbE p hh t (-1:Int) x==0 then bif x.isEmpty then K (AV.tup [.one .nil,.one (.int .i64 0)]) [] else K (AV.tup [.one (.own 0 1),.one (.int .i64 0)]) [Blk.row 3 (Row.ints .i64 (cmbF p hh t (-1:Int) 0 x))] else K (AV.tup [.one .nil,.one (.int .i64 (cmbE p hh t (-1:Int) x))]) []):=by kernel_rfl
theorem extou(x y:List Int)(K:AV→List Blk→Prop):evFn Etou Try.f16 [.one (.data (.ints .i64 x)),.one (.data (.ints .i64 y))] [] K=(x.length≤1000000∧y.length≤1000000∧[errE x,errE y,bif (↑x.length:Int)==(↑y.length:Int) then(0:Int) else(10:Int)].length≤1000∧bif firstE [errE x,errE y,bif (↑x.length:Int)==(↑y.length:Int) then(0:Int) else(10:Int)]!=0 then K (AV.tup [.one .nil,.one (.int .i64 (firstE [errE x,errE y,bif (↑x.length:Int)==(↑y.length:Int) then(0:Int) else(10:Int)]))]) [] else((↑x.length:Int)=(↑x.length:Int)∧x.length=y.length∧x.length≤200∧(0:Int)≤(0:Int)∧0≤(↑x.length:Int))∧bif (difA 0 x y).isEmpty then K (AV.tup [.one .nil,.one (.int .i64 0)]) [] else K (AV.tup [.one (.own 0 1),.one (.int .i64 0)]) [Blk.row 3 (Row.ints .i64 (difA 0 x y))]):=by kernel_rfl
theorem extoul0a(x y:List Int)(n i:Int)(K:Ex→List AV→List Blk→Prop):evBody Etou (lb Try.f16 0) [0,1,7,25,26] [7] [.one (.data (.ints .i64 x)),.one (.data (.ints .i64 y)),.one .nil,.one (.int .i64 n),.one (.int .i64 i)] [] K=(bif decide (i<n) then bif decide (0≤i)&&decide (i<(↑x.length:Int)) then bif decide (i.toNat+0<x.length) then bif decide (0≤i)&&decide (i<(↑y.length:Int)) then bif decide (i.toNat+0<y.length) then bif x.getD (i.toNat+0) 0 != y.getD (i.toNat+0) 0 then K .normal [.one (.data (Row.ints .i64 x)),.one (.data (Row.ints .i64 y)),.one (.own 0 1),.one (.int .i64 n),.one (.int .i64 (IntKind.i64.wrap (i+1)))] [Blk.row 3 (Row.ints .i64 [i])] else K .normal [.one (.data (Row.ints .i64 x)),.one (.data (Row.ints .i64 y)),.one .nil,.one (.int .i64 n),.one (.int .i64 (IntKind.i64.wrap (i+1)))] [] else False else False else False else False else K (.exit 0) [.one .nil] []):=by kernel_rfl
theorem extoul0b(x y:List Int)(n i:Int)(out:List Int)(K:Ex→List AV→List Blk→Prop):evBody Etou (lb Try.f16 0) [0,1,7,25,26] [7] [.one (.data (.ints .i64 x)),.one (.data (.ints .i64 y)),.one (.own 0 1),.one (.int .i64 n),.one (.int .i64 i)] [.row 3 (.ints .i64 out)] K=(bif decide (i<n) then bif decide (0≤i)&&decide (i<(↑x.length:Int)) then bif decide (i.toNat+0<x.length) then bif decide (0≤i)&&decide (i<(↑y.length:Int)) then bif decide (i.toNat+0<y.length) then bif x.getD (i.toNat+0) 0 != y.getD (i.toNat+0) 0 then bif decide ((out++[i]).length*8≤140737488355328∧(out++[i]).length≤140737488355328) then K .normal [.one (.data (Row.ints .i64 x)),.one (.data (Row.ints .i64 y)),.one (.own 0 1),.one (.int .i64 n),.one (.int .i64 (IntKind.i64.wrap (i+1)))] [Blk.row 3 (Row.ints .i64 (out++[i]))] else False else K .normal [.one (.data (Row.ints .i64 x)),.one (.data (Row.ints .i64 y)),.one (.own 0 1),.one (.int .i64 n),.one (.int .i64 (IntKind.i64.wrap (i+1)))] [Blk.row 3 (Row.ints .i64 out)] else False else False else False else False else K (.exit 0) [.one (.own 0 1)] [Blk.row 3 (Row.ints .i64 out)]):=by kernel_rfl
end Go.Ev
namespace Go.Ev
open Go Go.Proofs
set_option maxRecDepth 100000
theorem exwib(n lo hi:Int)(K:AV→List Blk→Prop):evFn Ewib Try.f5 [.one (.int .i64 n),.one (.int .i64 lo),.one (.int .i64 hi)] [] K=(bif decide (lo≤n) then K (.one (.bool (decide (n≤hi)))) [] else K (.one (.bool false)) []):=by kernel_rfl
theorem exwic(n lo hi:Int)(K:AV→List Blk→Prop):evFn Ewic Try.f41 [.one (.int .i64 n),.one (.int .i64 lo),.one (.int .i64 hi)] [] K=(bif decide (lo≤n) then K (.one (.bool (decide (n≤hi)))) [] else K (.one (.bool false)) []):=by kernel_rfl
theorem exunl(b:Bool)(e:Int)(K:AV→List Blk→Prop):evFn Eunl Try.f24 [.one (.bool b),.one (.int .i64 e)] [] K=(bif b then K (.one (.int .i64 0)) [] else K (.one (.int .i64 e)) []):=by kernel_rfl
theorem exfst(l:List Int)(K:AV→List Blk→Prop):evFn Efst Try.f23 [.one (.data (.ints .i64 l))] [] K=((l.length≤1000∧(0:Int)≤(0:Int)∧(↑l.length:Int)=(↑l.length:Int))∧bif firstE l==0 then K (.one (.int .i64 0)) [] else K (.one (.int .i64 (firstE l))) []):=by kernel_rfl
theorem exfstl0a(l:List Int)(n i:Int)(K:Ex→List AV→List Blk→Prop):evBody Efst (lb Try.f23 0) [5,6,7] [2] [.one (.data (.ints .i64 l)),.one (.int .i64 n),.one (.int .i64 i)] [] K=(bif decide (i<n) then bif decide (0≤i)&&decide (i<(↑l.length:Int)) then bif decide (i.toNat+0<l.length) then bif l.getD (i.toNat+0) (0:Int)!=(0:Int) then K .ret [.one (.int .i64 (l.getD (i.toNat+0) 0))] [] else K .normal [.one (.data (Row.ints .i64 l)),.one (.int .i64 n),.one (.int .i64 (IntKind.i64.wrap (i+1)))] [] else False else False else K (.exit 0) [AV.any] []):=by kernel_rfl
theorem exszb(a:Int)(K:AV→List Blk→Prop):evFn Eszb Try.f7 [.one (.int .i64 a)] [] K=(K (.one (.int .i64 (if IntKind.i64.wrap (0-a)>a then IntKind.i64.wrap (0-a) else a))) []):=by kernel_rfl
theorem exszc(a:Int)(K:AV→List Blk→Prop):evFn Eszc Try.f52 [.one (.int .i64 a)] [] K=(K (.one (.int .i64 (if IntKind.i64.wrap (0-a)>a then IntKind.i64.wrap (0-a) else a))) []):=by kernel_rfl
theorem exsiz(n m:Int)(K:AV→List Blk→Prop):evFn Esiz Try.f32 [.one (.int .i64 n),.one (.int .i64 m)] [] K=(K (.one (.bool (withinG n (IntKind.i64.wrap (0-m)) m))) []):=by kernel_rfl
theorem exsmp(n:Int)(K:AV→List Blk→Prop):evFn Esmp Try.f21 [.one (.int .i64 n)] [] K=(K (.one (.bool (withinG n (-32767:Int) 32767))) []):=by kernel_rfl
theorem exsms(l:List Int)(K:AV→List Blk→Prop):evFn Esms Try.f11 [.one (.data (.ints .i64 l))] [] K=((l.length≤1000000∧(0:Int)≤(0:Int))∧bif l.all sampleG then K (.one (.bool true)) [] else K (.one (.bool false)) []):=by kernel_rfl
theorem exsmsl0a(l:List Int)(i:Int)(K:Ex→List AV→List Blk→Prop):evBody Esms (lb Try.f11 0) [0,3] [2] [.one (.data (.ints .i64 l)),.one (.int .i64 i)] [] K=(bif decide (i<(↑l.length:Int)) then bif decide (0≤i)&&decide (i<(↑l.length:Int)) then bif decide (i.toNat+0<l.length) then bif !sampleG (l.getD (i.toNat+0) 0) then K .ret [.one (.bool false)] [] else K .normal [.one (.data (Row.ints .i64 l)),.one (.int .i64 (IntKind.i64.wrap (i+1)))] [] else False else False else K (.exit 0) [AV.any] []):=by kernel_rfl
theorem exlou(n:Int)(K:AV→List Blk→Prop):evFn Elou Try.f39 [.one (.int .i64 n)] [] K=(((0:Int)≤(32767:Int)∧(32767:Int)≤(1000000000:Int))∧K (.one (.bool !withinG n (-32767:Int) 32767)) []):=by kernel_rfl
theorem exgre(n:Int)(K:AV→List Blk→Prop):evFn Egre Try.f46 [.one (.int .i64 n)] [] K=(((0:Int)≤(65534:Int)∧(65534:Int)≤(1000000000:Int))∧K (.one (.bool !withinG n (-65534:Int) 65534)) []):=by kernel_rfl
theorem exixl(l:List Int)(K:AV→List Blk→Prop):evFn Eixl Try.f50 [.one (.data (.ints .i64 l)),.one (.func 39 [])] [] K=((l.length≤1000000∧(0:Int)≤(0:Int)∧(↑l.length:Int)=(↑l.length:Int))∧bif l.all sampleG then K (.one (.int .i64 (-1:Int))) [] else ∀(j:Int),0≤j→K (.one (.int .i64 j)) []):=by kernel_rfl
theorem exixll0a(l:List Int)(n i:Int)(K:Ex→List AV→List Blk→Prop):evBody Eixl (lb Try.f50 0) [0,1,7,8] [4] [.one (.data (.ints .i64 l)),.one (.func 39 []),.one (.int .i64 n),.one (.int .i64 i)] [] K=(bif decide (i<n) then bif decide (0≤i)&&decide (i<(↑l.length:Int)) then bif decide (i.toNat+0<l.length) then bif !sampleG (l.getD (i.toNat+0) 0) then K .ret [.one (.int .i64 i)] [] else K .normal [.one (.data (Row.ints .i64 l)),.one (.func (39:FuncId) []),.one (.int .i64 n),.one (.int .i64 (IntKind.i64.wrap (i+1)))] [] else False else False else K (.exit 0) [AV.any] []):=by kernel_rfl
theorem exixg(l:List Int)(K:AV→List Blk→Prop):evFn Eixg Try.f53 [.one (.data (.ints .i64 l)),.one (.func 46 [])] [] K=((l.length≤1000000∧(0:Int)≤(0:Int)∧(↑l.length:Int)=(↑l.length:Int))∧bif l.all greatG then K (.one (.int .i64 (-1:Int))) [] else ∀(j:Int),0≤j→K (.one (.int .i64 j)) []):=by kernel_rfl
theorem exixgl0a(l:List Int)(n i:Int)(K:Ex→List AV→List Blk→Prop):evBody Eixg (lb Try.f53 0) [0,1,7,8] [4] [.one (.data (.ints .i64 l)),.one (.func 46 []),.one (.int .i64 n),.one (.int .i64 i)] [] K=(bif decide (i<n) then bif decide (0≤i)&&decide (i<(↑l.length:Int)) then bif decide (i.toNat+0<l.length) then bif !greatG (l.getD (i.toNat+0) 0) then K .ret [.one (.int .i64 i)] [] else K .normal [.one (.data (Row.ints .i64 l)),.one (.func (46:FuncId) []),.one (.int .i64 n),.one (.int .i64 (IntKind.i64.wrap (i+1)))] [] else False else False else K (.exit 0) [AV.any] []):=by kernel_rfl
theorem exhal(l:List Int)(K:AV→List Blk→Prop):evFn Ehal Try.f38 [.one (.data (.ints .i64 l)),.one (.func 39 [])] [] K=(l.length≤1000000∧bif l.all sampleG then K (.one (.bool false)) [] else ∀(j:Int),0≤j→K (.one (.bool (decide (j≥0)))) []):=by kernel_rfl
theorem exhag(l:List Int)(K:AV→List Blk→Prop):evFn Ehag Try.f45 [.one (.data (.ints .i64 l)),.one (.func 46 [])] [] K=(l.length≤1000000∧bif l.all greatG then K (.one (.bool false)) [] else ∀(j:Int),0≤j→K (.one (.bool (decide (j≥0)))) []):=by kernel_rfl
theorem exerr(l:List Int)(K:AV→List Blk→Prop):evFn Eerr Try.f28 [.one (.data (.ints .i64 l))] [] K=(l.length≤1000000∧[bif decide ((↑l.length:Int)≤200) then(0:Int) else(8:Int),bif !!l.all sampleG then(0:Int) else(2:Int)].length≤1000∧K (.one (.int .i64 (firstE [bif decide ((↑l.length:Int)≤200) then(0:Int) else(8:Int),bif !!l.all sampleG then(0:Int) else(2:Int)]))) []):=by kernel_rfl
theorem exper(n:Int)(K:AV→List Blk→Prop):evFn Eper Try.f47 [.one (.int .i64 n)] [] K=(K (.one (.bool (withinG n 1 64))) []):=by kernel_rfl
theorem exchh(p hh:Int)(t:List Int)(K:AV→List Blk→Prop):evFn Echh Try.f31 [.agg [.int .i64 p,.int .i64 hh,.data (.ints .i64 t)]] [] K=(t.length≤1000000∧bif withinG p 1 64 then[bif withinG hh 0 (IntKind.i64.wrap (p-1)) then(0:Int) else(2:Int),bif (↑t.length:Int)==p then(0:Int) else(10:Int),bif !!t.all greatG then(0:Int) else(2:Int)].length≤1000∧K (.one (.int .i64 (firstE [bif withinG hh 0 (IntKind.i64.wrap (p-1)) then(0:Int) else(2:Int),bif (↑t.length:Int)==p then(0:Int) else(10:Int),bif !!t.all greatG then(0:Int) else(2:Int)]))) [] else[2,bif (↑t.length:Int)==p then(0:Int) else(10:Int),bif !!t.all greatG then(0:Int) else(2:Int)].length≤1000∧K (.one (.int .i64 (firstE [2,bif (↑t.length:Int)==p then(0:Int) else(10:Int),bif !!t.all greatG then(0:Int) else(2:Int)]))) []):=by kernel_rfl
theorem exhue(p hh:Int)(t:List Int)(K:AV→List Blk→Prop):evFn Ehue Try.f6 [.agg [.int .i64 p,.int .i64 hh,.data (.ints .i64 t)]] [] K=(bif !withinG p 1 64 then K (.one (.int .i64 2)) [] else bif !withinG hh 0 (IntKind.i64.wrap (p-1)) then K (.one (.int .i64 2)) [] else bif (↑t.length:Int)!=p then K (.one (.int .i64 10)) [] else(t.length≤1000000∧(0:Int)≤(0:Int))∧bif t.all greatG then K (.one (.int .i64 0)) [] else K (.one (.int .i64 2)) []):=by kernel_rfl
theorem exhuel0a(i p hh:Int)(t:List Int)(K:Ex→List AV→List Blk→Prop):evBody Ehue (lb Try.f6 0) [1,3] [2] [.one (.ptr 0 1 0 0),.one (.int .i64 i)] [.cells [.int .i64 p,.int .i64 hh,.data (.ints .i64 t)]] K=(bif decide (i<(↑t.length:Int)) then bif decide (0≤i)&&decide (i<(↑t.length:Int)) then bif decide (i.toNat+0<t.length) then bif !withinG (t.getD (i.toNat+0) 0) (-65534:Int) 65534 then K .ret [.one (.int .i64 2)] [] else K .normal [.one (.ptr 0 1 0 0),.one (.int .i64 (IntKind.i64.wrap (i+1)))] [Blk.cells [SV.int .i64 p,SV.int .i64 hh,SV.data (Row.ints .i64 t)]] else False else False else K (.exit 0) [AV.any] []):=by kernel_rfl
theorem exints(a b:List Int)(K:AV→List Blk→Prop):evFn Eints Try.f15 [.one (.data (.ints .i64 a)),.one (.data (.ints .i64 b))] [] K=(bif (↑a.length:Int)!=(↑b.length:Int) then K (.one (.bool false)) [] else(a.length≤1000000∧a.length=b.length∧(0:Int)≤(0:Int))∧bif a==b then K (.one (.bool true)) [] else K (.one (.bool false)) []):=by kernel_rfl
theorem exintsl0a(a b:List Int)(i:Int)(K:Ex→List AV→List Blk→Prop):evBody Eints (lb Try.f15 0) [0,1,5] [4] [.one (.data (.ints .i64 a)),.one (.data (.ints .i64 b)),.one (.int .i64 i)] [] K=(bif decide (i<(↑a.length:Int)) then bif decide (0≤i)&&decide (i<(↑a.length:Int)) then bif decide (i.toNat+0<a.length) then bif decide (0≤i)&&decide (i<(↑b.length:Int)) then bif decide (i.toNat+0<b.length) then bif a.getD (i.toNat+0) 0 != b.getD (i.toNat+0) 0 then K .ret [.one (.bool false)] [] else K .normal [.one (.data (Row.ints .i64 a)),.one (.data (Row.ints .i64 b)),.one (.int .i64 (IntKind.i64.wrap (i+1)))] [] else False else False else False else False else K (.exit 0) [AV.any] []):=by kernel_rfl
end Go.Ev
namespace Go.Ev
open Go Go.Proofs
attribute [local irreducible] evFn evBody evRound
set_option maxRecDepth 20000
theorem firstE_step{l:List Int}{i:Int}(h0:0≤i)(h:i<l.length):firstE (l.drop i.toNat)=bif l.getD i.toNat 0==0 then firstE (l.drop (i+1).toNat) else l.getD i.toNat 0:=by
 rw[drop_step 0 (by omega),show(i+1).toNat=i.toNat+1 by omega]
 rfl
theorem all_step{p:Int→Bool}{l:List Int}{i:Int}(h0:0≤i)(h:i<l.length):(l.drop i.toNat).all p=(p (l.getD i.toNat 0)&&(l.drop (i+1).toNat).all p):=by
 rw[drop_step 0 (by omega),show(i+1).toNat=i.toNat+1 by omega]
 rfl
theorem beq_step{a b:List Int}{i:Int}(h0:0≤i)(h:i<a.length)(h':i<b.length):(a.drop i.toNat==b.drop i.toNat)=((a.getD i.toNat 0==b.getD i.toNat 0)&&(a.drop (i+1).toNat==b.drop (i+1).toNat)):=by
 rw[drop_step 0 (show i.toNat<a.length by omega),drop_step 0 (show i.toNat<b.length by omega),show(i+1).toNat=i.toNat+1 by omega]
 rfl
theorem okwib:SpecOK Try.prog 5 withinS:=by
 refine specOK (n:=15) (m:=0) (lps:=[]) .nil Try.func5 (by kernel_rfl) (by kernel_rfl) (noLoops (by kernel_rfl)) fun args σ K h=> ?_
 unfold withinS at h
 split at h
 rotate_right
 ·exact h.elim
 ·rename_i n lo hi
  rw[exwib n lo hi K]
  unfold withinG at h
  cases hd:decide (lo≤n)<;>rw[hd] at h<;>simpa using h
theorem okwic:SpecOK Try.prog 41 withinS:=by
 refine specOK (n:=15) (m:=0) (lps:=[]) .nil Try.func41 (by kernel_rfl) (by kernel_rfl) (noLoops (by kernel_rfl)) fun args σ K h=> ?_
 unfold withinS at h
 split at h
 rotate_right
 ·exact h.elim
 ·rename_i n lo hi
  rw[exwic n lo hi K]
  unfold withinG at h
  cases hd:decide (lo≤n)<;>rw[hd] at h<;>simpa using h
theorem okunl:SpecOK Try.prog 24 unlessS:=by
 refine specOK (n:=7) (m:=0) (lps:=[]) .nil Try.func24 (by kernel_rfl) (by kernel_rfl) (noLoops (by kernel_rfl)) fun args σ K h=> ?_
 unfold unlessS at h
 split at h
 rotate_right
 ·exact h.elim
 ·rename_i b e
  rw[exunl b e K]
  cases b<;>exact h
theorem lokfst_0:LoopOK Efst (lb Try.f23 0) [5,6,7] [2] firstL:=by
 refine loopOK .nil (noInner (by kernel_rfl)) (fun vs σ=>match vs,σ with
  |[.one (.data (.ints .i64 l)),.one (.int .i64 _),.one (.int .i64 i)],[]=>(l.length-i).toNat
  |_,_=>0) fun vs σ k h=> ?_
 unfold firstL at h
 split at h
 rotate_right
 ·exact h.elim
 ·rename_i l n i
  rw[exfstl0a l n i _]
  obtain⟨⟨h1,h2,rfl⟩,h⟩:=h
  by_cases hi:i<(l.length:Int)
  ·rw[firstE_step h2 hi] at h
   rw[decide_eq_true hi,decide_eq_true h2,decide_eq_true (show i.toNat+0<l.length by omega),Nat.add_zero,wrap_id (by omega) (by omega)]
   simp only[Bool.and_self,cond_true]
   cases hp:l.getD i.toNat 0==0 with
   |false=>
    rw[hp] at h
    have hz:¬l.getD i.toNat 0=0:=by simpa using hp
    rw[cond_false,hp] at h
    rw[show(l.getD i.toNat 0 != 0)=true from congrArg not hp]
    exact h
   |true=>
    rw[hp] at h
    rw[show(l.getD i.toNat 0 != 0)=false from congrArg not hp]
    exact⟨⟨⟨h1,by omega,rfl⟩,h⟩,by show((l.length:Int)-(i+1)).toNat<((l.length:Int)-i).toNat;omega⟩
  ·rw[decide_eq_false hi]
   rw[List.drop_eq_nil_of_le (by omega)] at h
   exact h
theorem okfst:SpecOK Try.prog 23 firstS:=by
 refine specOK (n:=15) (m:=0) (lps:=[(2,.spec [5,6,7] [2] firstL)]) .nil Try.func23 (by kernel_rfl) (by kernel_rfl) (theLoops (n:=1) (by kernel_rfl) fun i hi=> ?_) fun args σ K h=> ?_
 ·match i,hi with
  |0,_=>exact loopHyp_of (key:=2) (by kernel_rfl) rfl lokfst_0
 unfold firstS at h
 split at h
 rotate_right
 ·exact h.elim
 ·rename_i l
  rw[exfst l K]
  refine⟨⟨h.1,by decide,rfl⟩,?_⟩
  cases hp:firstE l==0 with
  |false=>exact h.2
  |true=>rw[← eq_of_beq hp];exact h.2
theorem okszb:SpecOK Try.prog 7 sizeS:=by
 refine specOK (n:=7) (m:=0) (lps:=[]) .nil Try.func7 (by kernel_rfl) (by kernel_rfl) (noLoops (by kernel_rfl)) fun args σ K h=> ?_
 unfold sizeS at h
 split at h
 rotate_right
 ·exact h.elim
 ·rename_i a
  rw[exszb a K]
  exact h
theorem okszc:SpecOK Try.prog 52 sizeS:=by
 refine specOK (n:=7) (m:=0) (lps:=[]) .nil Try.func52 (by kernel_rfl) (by kernel_rfl) (noLoops (by kernel_rfl)) fun args σ K h=> ?_
 unfold sizeS at h
 split at h
 rotate_right
 ·exact h.elim
 ·rename_i a
  rw[exszc a K]
  exact h
theorem oksiz:SpecOK Try.prog 32 isSizedS:=by
 refine specOK (n:=10) (m:=0) (lps:=[]) (.cons okwic .nil) Try.func32 (by kernel_rfl) (by kernel_rfl) (noLoops (by kernel_rfl)) fun args σ K h=> ?_
 unfold isSizedS at h
 split at h
 rotate_right
 ·exact h.elim
 ·rename_i n m
  rw[exsiz n m K]
  rw[wrap_id (by omega) (by omega),Int.zero_sub]
  exact h.2
theorem oksmp:SpecOK Try.prog 21 sampleS:=by
 refine specOK (n:=5) (m:=0) (lps:=[]) (.cons okwib .nil) Try.func21 (by kernel_rfl) (by kernel_rfl) (noLoops (by kernel_rfl)) fun args σ K h=> ?_
 unfold sampleS at h
 split at h
 rotate_right
 ·exact h.elim
 ·rename_i n
  rw[exsmp n K]
  exact h
theorem loksms_0:LoopOK Esms (lb Try.f11 0) [0,3] [2] samplesL:=by
 refine loopOK (.cons oksmp .nil) (noInner (by kernel_rfl)) (fun vs σ=>match vs,σ with
  |[.one (.data (.ints .i64 l)),.one (.int .i64 i)],[]=>(l.length-i).toNat
  |_,_=>0) fun vs σ k h=> ?_
 unfold samplesL at h
 split at h
 rotate_right
 ·exact h.elim
 ·rename_i l i
  rw[exsmsl0a l i _]
  obtain⟨⟨h1,h2⟩,h⟩:=h
  by_cases hi:i<(l.length:Int)
  ·rw[all_step h2 hi] at h
   rw[decide_eq_true hi,decide_eq_true h2,decide_eq_true (show i.toNat+0<l.length by omega),Nat.add_zero,wrap_id (by omega) (by omega)]
   simp only[Bool.and_self,cond_true]
   cases hp:sampleG (l.getD i.toNat 0) with
   |false=>rw[hp] at h;exact h
   |true=>rw[hp] at h;exact⟨⟨⟨h1,by omega⟩,h⟩,by show((l.length:Int)-(i+1)).toNat<((l.length:Int)-i).toNat;omega⟩
  ·rw[decide_eq_false hi]
   rw[List.drop_eq_nil_of_le (by omega)] at h
   exact h
theorem oksms:SpecOK Try.prog 11 samplesS:=by
 refine specOK (n:=16) (m:=0) (lps:=[(2,.spec [0,3] [2] samplesL)]) (.cons oksmp .nil) Try.func11 (by kernel_rfl) (by kernel_rfl) (theLoops (n:=1) (by kernel_rfl) fun i hi=> ?_) fun args σ K h=> ?_
 ·match i,hi with
  |0,_=>exact loopHyp_of (key:=2) (by kernel_rfl) rfl loksms_0
 unfold samplesS at h
 split at h
 rotate_right
 ·exact h.elim
 ·rename_i l
  rw[exsms l K]
  refine⟨⟨h.1,by decide⟩,?_⟩
  cases hp:l.all sampleG<;>rw[hp] at h<;>exact h.2
theorem oklou:SpecOK Try.prog 39 loudS:=by
 refine specOK (n:=6) (m:=0) (lps:=[]) (.cons oksiz .nil) Try.func39 (by kernel_rfl) (by kernel_rfl) (noLoops (by kernel_rfl)) fun args σ K h=> ?_
 unfold loudS at h
 split at h
 rotate_right
 ·exact h.elim
 ·rename_i n
  rw[exlou n K]
  exact⟨⟨by decide,by decide⟩,h⟩
theorem okgre:SpecOK Try.prog 46 greatS:=by
 refine specOK (n:=6) (m:=0) (lps:=[]) (.cons oksiz .nil) Try.func46 (by kernel_rfl) (by kernel_rfl) (noLoops (by kernel_rfl)) fun args σ K h=> ?_
 unfold greatS at h
 split at h
 rotate_right
 ·exact h.elim
 ·rename_i n
  rw[exgre n K]
  exact⟨⟨by decide,by decide⟩,h⟩
theorem lokixl_0:LoopOK Eixl (lb Try.f50 0) [0,1,7,8] [4] idxLoudL:=by
 refine loopOK (.cons oklou .nil) (noInner (by kernel_rfl)) (fun vs σ=>match vs,σ with
  |[.one (.data (.ints .i64 l)),.one (.func 39 []),.one (.int .i64 _),.one (.int .i64 i)],[]=>(l.length-i).toNat
  |_,_=>0) fun vs σ k h=> ?_
 unfold idxLoudL at h
 split at h
 rotate_right
 ·exact h.elim
 ·rename_i l n i
  rw[exixll0a l n i _]
  obtain⟨⟨h1,h2,rfl⟩,h⟩:=h
  by_cases hi:i<(l.length:Int)
  ·rw[all_step h2 hi] at h
   rw[decide_eq_true hi,decide_eq_true h2,decide_eq_true (show i.toNat+0<l.length by omega),Nat.add_zero,wrap_id (by omega) (by omega)]
   simp only[Bool.and_self,cond_true]
   cases hp:sampleG (l.getD i.toNat 0) with
   |false=>rw[hp] at h;exact h i h2
   |true=>rw[hp] at h;exact⟨⟨⟨h1,by omega,rfl⟩,h⟩,by show((l.length:Int)-(i+1)).toNat<((l.length:Int)-i).toNat;omega⟩
  ·rw[decide_eq_false hi]
   rw[List.drop_eq_nil_of_le (by omega)] at h
   exact h
theorem okixl:SpecOK Try.prog 50 idxLoudS:=by
 refine specOK (n:=19) (m:=0) (lps:=[(2,.spec [0,1,7,8] [4] idxLoudL)]) (.cons oklou .nil) Try.func50 (by kernel_rfl) (by kernel_rfl) (theLoops (n:=1) (by kernel_rfl) fun i hi=> ?_) fun args σ K h=> ?_
 ·match i,hi with
  |0,_=>exact loopHyp_of (key:=2) (by kernel_rfl) rfl lokixl_0
 unfold idxLoudS at h
 split at h
 rotate_right
 ·exact h.elim
 ·rename_i l
  rw[exixl l K]
  exact⟨⟨h.1,by decide,rfl⟩,h.2⟩
theorem lokixg_0:LoopOK Eixg (lb Try.f53 0) [0,1,7,8] [4] idxGreatL:=by
 refine loopOK (.cons okgre .nil) (noInner (by kernel_rfl)) (fun vs σ=>match vs,σ with
  |[.one (.data (.ints .i64 l)),.one (.func 46 []),.one (.int .i64 _),.one (.int .i64 i)],[]=>(l.length-i).toNat
  |_,_=>0) fun vs σ k h=> ?_
 unfold idxGreatL at h
 split at h
 rotate_right
 ·exact h.elim
 ·rename_i l n i
  rw[exixgl0a l n i _]
  obtain⟨⟨h1,h2,rfl⟩,h⟩:=h
  by_cases hi:i<(l.length:Int)
  ·rw[all_step h2 hi] at h
   rw[decide_eq_true hi,decide_eq_true h2,decide_eq_true (show i.toNat+0<l.length by omega),Nat.add_zero,wrap_id (by omega) (by omega)]
   simp only[Bool.and_self,cond_true]
   cases hp:greatG (l.getD i.toNat 0) with
   |false=>rw[hp] at h;exact h i h2
   |true=>rw[hp] at h;exact⟨⟨⟨h1,by omega,rfl⟩,h⟩,by show((l.length:Int)-(i+1)).toNat<((l.length:Int)-i).toNat;omega⟩
  ·rw[decide_eq_false hi]
   rw[List.drop_eq_nil_of_le (by omega)] at h
   exact h
theorem okixg:SpecOK Try.prog 53 idxGreatS:=by
 refine specOK (n:=19) (m:=0) (lps:=[(2,.spec [0,1,7,8] [4] idxGreatL)]) (.cons okgre .nil) Try.func53 (by kernel_rfl) (by kernel_rfl) (theLoops (n:=1) (by kernel_rfl) fun i hi=> ?_) fun args σ K h=> ?_
 ·match i,hi with
  |0,_=>exact loopHyp_of (key:=2) (by kernel_rfl) rfl lokixg_0
 unfold idxGreatS at h
 split at h
 rotate_right
 ·exact h.elim
 ·rename_i l
  rw[exixg l K]
  exact⟨⟨h.1,by decide,rfl⟩,h.2⟩
theorem okhal:SpecOK Try.prog 38 hasLoudS:=by
 refine specOK (n:=9) (m:=0) (lps:=[]) (.cons okixl .nil) Try.func38 (by kernel_rfl) (by kernel_rfl) (noLoops (by kernel_rfl)) fun args σ K h=> ?_
 unfold hasLoudS at h
 split at h
 rotate_right
 ·exact h.elim
 ·rename_i l
  rw[exhal l K]
  refine⟨h.1,?_⟩
  cases hp:l.all sampleG with
  |true=>rw[hp] at h;exact h.2
  |false=>rw[hp] at h;exact fun j hj=>by rw[decide_eq_true (show j≥0 from hj)];exact h.2
theorem okhag:SpecOK Try.prog 45 hasGreatS:=by
 refine specOK (n:=9) (m:=0) (lps:=[]) (.cons okixg .nil) Try.func45 (by kernel_rfl) (by kernel_rfl) (noLoops (by kernel_rfl)) fun args σ K h=> ?_
 unfold hasGreatS at h
 split at h
 rotate_right
 ·exact h.elim
 ·rename_i l
  rw[exhag l K]
  refine⟨h.1,?_⟩
  cases hp:l.all greatG with
  |true=>rw[hp] at h;exact h.2
  |false=>rw[hp] at h;exact fun j hj=>by rw[decide_eq_true (show j≥0 from hj)];exact h.2
theorem okerr:SpecOK Try.prog 28 errS:=by
 refine specOK (n:=15) (m:=0) (lps:=[]) (.cons okhal (.cons oklou (.cons okunl (.cons okfst .nil)))) Try.func28 (by kernel_rfl) (by kernel_rfl) (noLoops (by kernel_rfl)) fun args σ K h=> ?_
 unfold errS at h
 split at h
 rotate_right
 ·exact h.elim
 ·rename_i l
  rw[exerr l K]
  refine⟨h.1,by simp,?_⟩
  have e:firstE [bif decide ((l.length:Int)≤200) then 0 else 8,bif !!l.all sampleG then 0 else 2]=errE l:=by
   unfold errE
   cases decide ((l.length:Int)≤200)<;>cases l.all sampleG<;>rfl
  rw[e]
  exact h.2
theorem okper:SpecOK Try.prog 47 periodS:=by
 refine specOK (n:=5) (m:=0) (lps:=[]) (.cons okwic .nil) Try.func47 (by kernel_rfl) (by kernel_rfl) (noLoops (by kernel_rfl)) fun args σ K h=> ?_
 unfold periodS at h
 split at h
 rotate_right
 ·exact h.elim
 ·rename_i n
  rw[exper n K]
  exact h
theorem humE_first(p h:Int)(t:List Int):(bif withinG p 1 64 then firstE [bif withinG h 0 (IntKind.i64.wrap (p-1)) then 0 else 2,bif (t.length:Int)==p then 0 else 10,bif !!t.all greatG then 0 else 2] else firstE [2,bif (t.length:Int)==p then 0 else 10,bif !!t.all greatG then 0 else 2])=humE p h t:=by
 unfold humE
 cases hp:withinG p 1 64 with
 |false=>rfl
 |true=>
  have h1:1≤p∧p≤64:=by simpa [withinG] using hp
  rw[wrap_id (by omega) (by omega)]
  cases withinG h 0 (p-1)<;>cases (t.length:Int)==p<;>cases t.all greatG<;>rfl
theorem okchh:SpecOK Try.prog 31 checkHumS:=by
 refine specOK (n:=31) (m:=0) (lps:=[]) (.cons okhag (.cons okgre (.cons okper (.cons okwic (.cons okunl (.cons okfst .nil)))))) Try.func31 (by kernel_rfl) (by kernel_rfl) (noLoops (by kernel_rfl)) fun args σ K h=> ?_
 unfold checkHumS at h
 split at h
 rotate_right
 ·exact h.elim
 ·rename_i p hh t
  rw[exchh p hh t K]
  have e:=humE_first p hh t
  refine⟨h.1,?_⟩
  cases hp:withinG p 1 64 with
  |false=>rw[hp,cond_false] at e;rw[e];exact⟨by simp,h.2⟩
  |true=>rw[hp,cond_true] at e;rw[e];exact⟨by simp,h.2⟩
theorem lokhue_0:LoopOK Ehue (lb Try.f6 0) [1,3] [2] humErrL:=by
 refine loopOK (.cons okwib .nil) (noInner (by kernel_rfl)) (fun vs σ=>match vs,σ with
  |[.one (.ptr 0 1 0 0),.one (.int .i64 i)],[.cells [.int .i64 _,.int .i64 _,.data (.ints .i64 t)]]=>(t.length-i).toNat
  |_,_=>0) fun vs σ k h=> ?_
 unfold humErrL at h
 split at h
 rotate_right
 ·exact h.elim
 ·rename_i i p hh t
  rw[exhuel0a i p hh t _]
  obtain⟨⟨h1,h2⟩,h⟩:=h
  by_cases hi:i<(t.length:Int)
  ·rw[all_step h2 hi] at h
   rw[decide_eq_true hi,decide_eq_true h2,decide_eq_true (show i.toNat+0<t.length by omega),Nat.add_zero,wrap_id (by omega) (by omega)]
   simp only[Bool.and_self,cond_true]
   change bif !greatG (t.getD i.toNat 0) then _ else _
   cases hp:greatG (t.getD i.toNat 0) with
   |false=>rw[hp] at h;exact h
   |true=>rw[hp] at h;exact⟨⟨⟨h1,by omega⟩,h⟩,by show((t.length:Int)-(i+1)).toNat<((t.length:Int)-i).toNat;omega⟩
  ·rw[decide_eq_false hi]
   rw[List.drop_eq_nil_of_le (by omega)] at h
   exact h
theorem okhue:SpecOK Try.prog 6 humErrS:=by
 refine specOK (n:=37) (m:=0) (lps:=[(6,.spec [1,3] [2] humErrL)]) (.cons okwib .nil) Try.func6 (by kernel_rfl) (by kernel_rfl) (theLoops (n:=1) (by kernel_rfl) fun i hi=> ?_) fun args σ K h=> ?_
 ·match i,hi with
  |0,_=>exact loopHyp_of (key:=6) (by kernel_rfl) rfl lokhue_0
 unfold humErrS at h
 split at h
 rotate_right
 ·exact h.elim
 ·rename_i p hh t
  rw[exhue p hh t K]
  obtain⟨h1,h⟩:=h
  unfold humE at h
  cases hp:withinG p 1 64 with
  |false=>rw[hp] at h;exact h
  |true=>
   have h2:1≤p∧p≤64:=by simpa [withinG] using hp
   rw[hp,Bool.true_and] at h
   rw[wrap_id (by omega) (by omega)]
   cases hq:withinG hh 0 (p-1) with
   |false=>rw[hq] at h;exact h
   |true=>
    rw[hq] at h
    cases hr:(t.length:Int)==p with
    |false=>rw[hr] at h;simp only[bne,hr];exact h
    |true=>
     rw[hr] at h
     simp only[bne,hr]
     refine⟨⟨h1,by decide⟩,?_⟩
     cases hs:t.all greatG<;>rw[hs] at h<;>exact h
theorem lokints_0:LoopOK Eints (lb Try.f15 0) [0,1,5] [4] intsL:=by
 refine loopOK .nil (noInner (by kernel_rfl)) (fun vs σ=>match vs,σ with
  |[.one (.data (.ints .i64 a)),.one (.data (.ints .i64 _)),.one (.int .i64 i)],[]=>(a.length-i).toNat
  |_,_=>0) fun vs σ k h=> ?_
 unfold intsL at h
 split at h
 rotate_right
 ·exact h.elim
 ·rename_i a b i
  rw[exintsl0a a b i _]
  obtain⟨⟨h1,h3,h2⟩,h⟩:=h
  by_cases hi:i<(a.length:Int)
  ·rw[beq_step h2 hi (by omega)] at h
   rw[decide_eq_true hi,decide_eq_true h2,decide_eq_true (show i.toNat+0<a.length by omega),decide_eq_true (show i<(b.length:Int) by omega),decide_eq_true (show i.toNat+0<b.length by omega),Nat.add_zero,wrap_id (by omega) (by omega)]
   simp only[Bool.and_self,cond_true]
   cases hp:a.getD i.toNat 0==b.getD i.toNat 0 with
   |false=>rw[hp] at h;rw[show(a.getD i.toNat 0 != b.getD i.toNat 0)=true from congrArg not hp];exact h
   |true=>rw[hp] at h;rw[show(a.getD i.toNat 0 != b.getD i.toNat 0)=false from congrArg not hp];exact⟨⟨⟨h1,h3,by omega⟩,h⟩,by show((a.length:Int)-(i+1)).toNat<((a.length:Int)-i).toNat;omega⟩
  ·rw[decide_eq_false hi]
   rw[List.drop_eq_nil_of_le (by omega),List.drop_eq_nil_of_le (by omega)] at h
   exact h
theorem okints:SpecOK Try.prog 15 intsS:=by
 refine specOK (n:=26) (m:=0) (lps:=[(4,.spec [0,1,5] [4] intsL)]) .nil Try.func15 (by kernel_rfl) (by kernel_rfl) (theLoops (n:=1) (by kernel_rfl) fun i hi=> ?_) fun args σ K h=> ?_
 ·match i,hi with
  |0,_=>exact loopHyp_of (key:=4) (by kernel_rfl) rfl lokints_0
 unfold intsS at h
 split at h
 rotate_right
 ·exact h.elim
 ·rename_i a b
  rw[exints a b K]
  by_cases hl:a.length=b.length
  ·rw[show((a.length:Int)!=(b.length:Int))=false by rw[hl];simp]
   refine⟨⟨h.1,hl,by decide⟩,?_⟩
   cases hp:a==b<;>rw[hp] at h<;>exact h.2
  ·rw[show((a.length:Int)!=(b.length:Int))=true by simp;omega]
   rw[show(a==b)=false by simp;intro e;exact hl (by rw[e])] at h
   exact h.2
end Go.Ev
