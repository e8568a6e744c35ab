/-
  Part of the proof that TopTransferMended holds.
-/
import Derived.Test.YtmailpnpjcpodaaGreatDoorT16
set_option linter.unusedVariables false
set_option linter.unusedSimpArgs false
set_option linter.unusedSectionVars false
namespace Go.Ev
open Go Go.Proofs
set_option maxRecDepth 100000
theorem ex106(p l b:Int)(K:AV→List Blk→Prop):evFn E106 Tryz.f74 [.one (.int .i64 p),.one (.int .i64 l),.one (.int .i64 b)] [] K=(bif p==1 then K (.one (.int .i64 l)) [] else bif p==2 then K (.one (.int .i64 (IntKind.i64.wrap (IntKind.i64.wrap (2*l)-b)))) [] else K (.one (.int .i64 0)) []):=by kernel_rfl
theorem ex85(x0 x1 x2 x3 x4 x5 x6 x7 p:Int)(K:AV→List Blk→Prop):evFn E85 Tryz.f68 [.agg [.int .i64 x0,.int .i64 x1,.int .i64 x2,.int .i64 x3,.int .i64 x4,.int .i64 x5,.int .i64 x6,.int .i64 x7],.one (.int .i64 p)] [] K=(((0:Int)≤(0:Int)∧(0:Int)≤(8:Int)∧8=8)∧K (AV.agg [SV.int .i64 ((codR p 0 0 [x0,x1,x2,x3,x4,x5,x6,x7]).getD 0 0),SV.int .i64 ((codR p 0 0 [x0,x1,x2,x3,x4,x5,x6,x7]).getD 1 0),SV.int .i64 ((codR p 0 0 [x0,x1,x2,x3,x4,x5,x6,x7]).getD 2 0),SV.int .i64 ((codR p 0 0 [x0,x1,x2,x3,x4,x5,x6,x7]).getD 3 0),SV.int .i64 ((codR p 0 0 [x0,x1,x2,x3,x4,x5,x6,x7]).getD 4 0),SV.int .i64 ((codR p 0 0 [x0,x1,x2,x3,x4,x5,x6,x7]).getD 5 0),SV.int .i64 ((codR p 0 0 [x0,x1,x2,x3,x4,x5,x6,x7]).getD 6 0),SV.int .i64 ((codR p 0 0 [x0,x1,x2,x3,x4,x5,x6,x7]).getD 7 0)]) []):=by kernel_rfl
theorem ex85a(p last bef x0 x1 x2 x3 x4 x5 x6 x7 i:Int)(z out:List Int)(K:Ex→List AV→List Blk→Prop):evBody E85 (lb Tryz.f68 0) [1,4,5,6,7,11,12] [4,5] [.one (.int .i64 p),.one (.ptr 0 1 0 0),.one (.ptr 1 1 0 0),.one (.int .i64 last),.one (.int .i64 bef),.agg [.int .i64 x0,.int .i64 x1,.int .i64 x2,.int .i64 x3,.int .i64 x4,.int .i64 x5,.int .i64 x6,.int .i64 x7],.one (.int .i64 i)] [.row 119 (.ints .i64 z),.row 119 (.ints .i64 out)] K=(bif decide (i<8) then bif decide (0≤i)&&decide (i<8) then bif decide (IntKind.i64.wrap ([x0,x1,x2,x3,x4,x5,x6,x7].getD i.toNat (0:Int)-expG p last bef)≥0) then bif decide (0≤i)&&decide (i<8) then bif decide (0+stepN i.toNat 1+0<out.length) then K .normal [.one (.int .i64 p),.one (.ptr 0 1 0 0),.one (.ptr 1 1 0 0),.one (.int .i64 ([x0,x1,x2,x3,x4,x5,x6,x7].getD i.toNat (0:Int))),.one (.int .i64 last),AV.agg [SV.int .i64 x0,SV.int .i64 x1,SV.int .i64 x2,SV.int .i64 x3,SV.int .i64 x4,SV.int .i64 x5,SV.int .i64 x6,SV.int .i64 x7],.one (.int .i64 (IntKind.i64.wrap (i+1)))] [Blk.row 119 (Row.ints .i64 z),Blk.row 119 (Row.ints .i64 (out.set (0+stepN i.toNat 1+0) (IntKind.i64.wrap (2*IntKind.i64.wrap ([x0,x1,x2,x3,x4,x5,x6,x7].getD i.toNat (0:Int)-expG p last bef)))))] else False else False else bif decide (0≤i)&&decide (i<8) then bif decide (0+stepN i.toNat 1+0<out.length) then K .normal [.one (.int .i64 p),.one (.ptr 0 1 0 0),.one (.ptr 1 1 0 0),.one (.int .i64 ([x0,x1,x2,x3,x4,x5,x6,x7].getD i.toNat (0:Int))),.one (.int .i64 last),AV.agg [SV.int .i64 x0,SV.int .i64 x1,SV.int .i64 x2,SV.int .i64 x3,SV.int .i64 x4,SV.int .i64 x5,SV.int .i64 x6,SV.int .i64 x7],.one (.int .i64 (IntKind.i64.wrap (i+1)))] [Blk.row 119 (Row.ints .i64 z),Blk.row 119 (Row.ints .i64 (out.set (0+stepN i.toNat 1+0) (IntKind.i64.wrap (IntKind.i64.wrap ((-2:Int)*IntKind.i64.wrap ([x0,x1,x2,x3,x4,x5,x6,x7].getD i.toNat (0:Int)-expG p last bef))-1))))] else False else False else False else K (.exit 0) [.one (.ptr 0 1 0 0),.one (.ptr 1 1 0 0)] [Blk.row 119 (Row.ints .i64 z),Blk.row 119 (Row.ints .i64 out)]):=by kernel_rfl
theorem ex83(x0 x1 x2 x3 x4 x5 x6 x7 p k:Int)(K:AV→List Blk→Prop):evFn E83 Tryz.f66 [.agg [.int .i64 x0,.int .i64 x1,.int .i64 x2,.int .i64 x3,.int .i64 x4,.int .i64 x5,.int .i64 x6,.int .i64 x7],.one (.int .i64 p),.one (.int .i64 k)] [] K=(bif !decide (k<0) then bif !decide (k<0) then bif !decide (k<0) then bif !decide (k<0) then bif !decide (k<0) then bif !decide (k<0) then bif !decide (k<0) then bif !decide (k<0) then K (.one (.int .i64 (IntKind.i64.wrap (IntKind.i64.wrap (IntKind.i64.wrap (IntKind.i64.wrap (IntKind.i64.wrap (IntKind.i64.wrap (IntKind.i64.wrap (IntKind.i64.wrap (7+IntKind.i64.wrap (IntKind.i64.wrap (((codG p [x0,x1,x2,x3,x4,x5,x6,x7]).getD 0 0).fdiv (2^min k.toNat 64)+1)+k))+IntKind.i64.wrap (IntKind.i64.wrap (((codG p [x0,x1,x2,x3,x4,x5,x6,x7]).getD 1 0).fdiv (2^min k.toNat 64)+1)+k))+IntKind.i64.wrap (IntKind.i64.wrap (((codG p [x0,x1,x2,x3,x4,x5,x6,x7]).getD 2 0).fdiv (2^min k.toNat 64)+1)+k))+IntKind.i64.wrap (IntKind.i64.wrap (((codG p [x0,x1,x2,x3,x4,x5,x6,x7]).getD 3 0).fdiv (2^min k.toNat 64)+1)+k))+IntKind.i64.wrap (IntKind.i64.wrap (((codG p [x0,x1,x2,x3,x4,x5,x6,x7]).getD 4 0).fdiv (2^min k.toNat 64)+1)+k))+IntKind.i64.wrap (IntKind.i64.wrap (((codG p [x0,x1,x2,x3,x4,x5,x6,x7]).getD 5 0).fdiv (2^min k.toNat 64)+1)+k))+IntKind.i64.wrap (IntKind.i64.wrap (((codG p [x0,x1,x2,x3,x4,x5,x6,x7]).getD 6 0).fdiv (2^min k.toNat 64)+1)+k))+IntKind.i64.wrap (IntKind.i64.wrap (((codG p [x0,x1,x2,x3,x4,x5,x6,x7]).getD 7 0).fdiv (2^min k.toNat 64)+1)+k))))) [] else False else False else False else False else False else False else False else False):=by kernel_rfl
theorem ex84a(n c:Int)(K:AV→List Blk→Prop):evFn E84a Tryz.f67 [.one (.ptr 0 1 0 0),.one (.int .i64 n),.one (.int .i64 c)] [.cells [.nil]] K=(((-1:Int)≤IntKind.i64.wrap (c-1)∧IntKind.i64.wrap (c-1)≤100)∧bif decide (IntKind.i64.wrap (c-1)≥0) then K (AV.tup []) [Blk.cells [SV.own 1 1],Blk.row 3 (Row.ints .i64 (bitsN n (IntKind.i64.wrap (c-1)+1).toNat))] else K (AV.tup []) [Blk.cells [SV.nil]]):=by kernel_rfl
theorem ex84b(n c:Int)(xs:List Int)(K:AV→List Blk→Prop):evFn E84b Tryz.f67 [.one (.ptr 0 1 0 0),.one (.int .i64 n),.one (.int .i64 c)] [.cells [.own 1 1],.row 3 (.ints .i64 xs)] K=(((-1:Int)≤IntKind.i64.wrap (c-1)∧IntKind.i64.wrap (c-1)≤100∧(↑xs.length:Int)+IntKind.i64.wrap (c-1)≤2000000000)∧bif decide (IntKind.i64.wrap (c-1)≥0) then K (AV.tup []) [Blk.cells [SV.own 2 1],Blk.dead,Blk.row 3 (Row.ints .i64 (xs++bitsN n (IntKind.i64.wrap (c-1)+1).toNat))] else K (AV.tup []) [Blk.cells [SV.own 1 1],Blk.row 3 (Row.ints .i64 xs)]):=by kernel_rfl
theorem ex84c(n i:Int)(K:Ex→List AV→List Blk→Prop):evBody E84a (lb Tryz.f67 0) [0,1,6] [] [.one (.ptr 0 1 0 0),.one (.int .i64 n),.one (.int .i64 i)] [.cells [.nil]] K=(bif decide (i≥0) then bif !decide (i<0) then K .normal [.one (.ptr 0 1 0 0),.one (.int .i64 n),.one (.int .i64 (IntKind.i64.wrap (i-1)))] [Blk.cells [SV.own 1 1],Blk.row 3 (Row.ints .i64 [IntKind.i64.wrap (↑(BitVec.ofInt 64 (n.fdiv (2^min i.toNat 64)) &&& BitVec.ofInt 64 1).toNat:Int)])] else False else K (.exit 0) [] [Blk.cells [SV.nil]]):=by kernel_rfl
theorem ex84d(n i:Int)(xs:List Int)(K:Ex→List AV→List Blk→Prop):evBody E84a (lb Tryz.f67 0) [0,1,6] [] [.one (.ptr 0 1 0 0),.one (.int .i64 n),.one (.int .i64 i)] [.cells [.own 1 1],.row 3 (.ints .i64 xs)] K=(bif decide (i≥0) then bif !decide (i<0) then bif decide ((xs++[IntKind.i64.wrap (↑(BitVec.ofInt 64 (n.fdiv (2^min i.toNat 64)) &&& BitVec.ofInt 64 1).toNat:Int)]).length*8≤140737488355328∧(xs++[IntKind.i64.wrap (↑(BitVec.ofInt 64 (n.fdiv (2^min i.toNat 64)) &&& BitVec.ofInt 64 1).toNat:Int)]).length≤140737488355328) then K .normal [.one (.ptr 0 1 0 0),.one (.int .i64 n),.one (.int .i64 (IntKind.i64.wrap (i-1)))] [Blk.cells [SV.own 1 1],Blk.row 3 (Row.ints .i64 (xs++[IntKind.i64.wrap (↑(BitVec.ofInt 64 (n.fdiv (2^min i.toNat 64)) &&& BitVec.ofInt 64 1).toNat:Int)]))] else False else False else K (.exit 0) [] [Blk.cells [SV.own 1 1],Blk.row 3 (Row.ints .i64 xs)]):=by kernel_rfl
theorem ex84e(n i:Int)(xs:List Int)(K:Ex→List AV→List Blk→Prop):evBody E84b (lb Tryz.f67 0) [0,1,6] [] [.one (.ptr 0 1 0 0),.one (.int .i64 n),.one (.int .i64 i)] [.cells [.own 1 1],.row 3 (.ints .i64 xs)] K=(bif decide (i≥0) then bif !decide (i<0) then bif decide ((xs++[IntKind.i64.wrap (↑(BitVec.ofInt 64 (n.fdiv (2^min i.toNat 64)) &&& BitVec.ofInt 64 1).toNat:Int)]).length*8≤140737488355328∧(xs++[IntKind.i64.wrap (↑(BitVec.ofInt 64 (n.fdiv (2^min i.toNat 64)) &&& BitVec.ofInt 64 1).toNat:Int)]).length≤140737488355328) then K .normal [.one (.ptr 0 1 0 0),.one (.int .i64 n),.one (.int .i64 (IntKind.i64.wrap (i-1)))] [Blk.cells [SV.own 2 1],Blk.dead,Blk.row 3 (Row.ints .i64 (xs++[IntKind.i64.wrap (↑(BitVec.ofInt 64 (n.fdiv (2^min i.toNat 64)) &&& BitVec.ofInt 64 1).toNat:Int)]))] else False else False else K (.exit 0) [] [Blk.cells [SV.own 1 1],Blk.row 3 (Row.ints .i64 xs)]):=by kernel_rfl
theorem ex84f(n i:Int)(xs:List Int)(K:Ex→List AV→List Blk→Prop):evBody E84b (lb Tryz.f67 0) [0,1,6] [] [.one (.ptr 0 1 0 0),.one (.int .i64 n),.one (.int .i64 i)] [.cells [.own 2 1],.dead,.row 3 (.ints .i64 xs)] K=(bif decide (i≥0) then bif !decide (i<0) then bif decide ((xs++[IntKind.i64.wrap (↑(BitVec.ofInt 64 (n.fdiv (2^min i.toNat 64)) &&& BitVec.ofInt 64 1).toNat:Int)]).length*8≤140737488355328∧(xs++[IntKind.i64.wrap (↑(BitVec.ofInt 64 (n.fdiv (2^min i.toNat 64)) &&& BitVec.ofInt 64 1).toNat:Int)]).length≤140737488355328) then K .normal [.one (.ptr 0 1 0 0),.one (.int .i64 n),.one (.int .i64 (IntKind.i64.wrap (i-1)))] [Blk.cells [SV.own 2 1],Blk.dead,Blk.row 3 (Row.ints .i64 (xs++[IntKind.i64.wrap (↑(BitVec.ofInt 64 (n.fdiv (2^min i.toNat 64)) &&& BitVec.ofInt 64 1).toNat:Int)]))] else False else False else K (.exit 0) [] [Blk.cells [SV.own 2 1],Blk.dead,Blk.row 3 (Row.ints .i64 xs)]):=by kernel_rfl
theorem ex139(x y:Int)(K:AV→List Blk→Prop):evFn E139 Tryz.f127 [.one (.int .u64 x),.one (.int .u64 y)] [] K=(K (AV.tup [.one (.int IntKind.u64 (IntKind.u64.wrap (IntKind.u64.wrap (IntKind.u64.wrap (x.fdiv 4294967296*y.fdiv 4294967296)+(IntKind.u64.wrap (IntKind.u64.wrap (x.fdiv 4294967296*IntKind.u64.wrap (↑(BitVec.ofInt 64 y &&& BitVec.ofInt 64 4294967295).toNat:Int))+(IntKind.u64.wrap (IntKind.u64.wrap (↑(BitVec.ofInt 64 x &&& BitVec.ofInt 64 4294967295).toNat:Int)*IntKind.u64.wrap (↑(BitVec.ofInt 64 y &&& BitVec.ofInt 64 4294967295).toNat:Int))).fdiv 4294967296)).fdiv 4294967296)+(IntKind.u64.wrap (IntKind.u64.wrap (↑(BitVec.ofInt 64 (IntKind.u64.wrap (IntKind.u64.wrap (x.fdiv 4294967296*IntKind.u64.wrap (↑(BitVec.ofInt 64 y &&& BitVec.ofInt 64 4294967295).toNat:Int))+(IntKind.u64.wrap (IntKind.u64.wrap (↑(BitVec.ofInt 64 x &&& BitVec.ofInt 64 4294967295).toNat:Int)*IntKind.u64.wrap (↑(BitVec.ofInt 64 y &&& BitVec.ofInt 64 4294967295).toNat:Int))).fdiv 4294967296)) &&& BitVec.ofInt 64 4294967295).toNat:Int)+IntKind.u64.wrap (IntKind.u64.wrap (↑(BitVec.ofInt 64 x &&& BitVec.ofInt 64 4294967295).toNat:Int)*y.fdiv 4294967296))).fdiv 4294967296))),.one (.int IntKind.u64 (IntKind.u64.wrap (x*y)))]) []):=by kernel_rfl
theorem ex127(x y:Int)(K:AV→List Blk→Prop):evFn E127 Tryz.f104 [.one (.int .u64 x),.one (.int .u64 y)] [] K=((0≤x∧x≤2147483647∧0≤y∧y≤2147483647)∧K (AV.tup [.one (.int IntKind.u64 0),.one (.int IntKind.u64 (x*y))]) []):=by kernel_rfl
theorem ex86(x c:Int)(K:AV→List Blk→Prop):evFn E86 Tryz.f69 [.one (.data (.ints .i64 [x])),.one (.int .i64 c)] [] K=(bif decide (c<0) then False else(0≤IntKind.u64.wrap (↑[x].length:Int)∧IntKind.u64.wrap (↑[x].length:Int)≤2147483647∧0≤IntKind.u64.wrap c∧IntKind.u64.wrap c≤2147483647)∧bif decide (IntKind.u64.wrap (↑[x].length:Int)*IntKind.u64.wrap c>9223372036854775807) then False else bif decide (0≤IntKind.i64.wrap (IntKind.u64.wrap (↑[x].length:Int)*IntKind.u64.wrap c))&&(decide (IntKind.i64.wrap (IntKind.u64.wrap (↑[x].length:Int)*IntKind.u64.wrap c)≤IntKind.i64.wrap (IntKind.u64.wrap (↑[x].length:Int)*IntKind.u64.wrap c))&&decide (IntKind.i64.wrap (IntKind.u64.wrap (↑[x].length:Int)*IntKind.u64.wrap c)*(8:Int)≤(140737488355328:Int)∧IntKind.i64.wrap (IntKind.u64.wrap (↑[x].length:Int)*IntKind.u64.wrap c)≤140737488355328)) then bif decide (0+(List.replicate (IntKind.i64.wrap (IntKind.u64.wrap (↑[x].length:Int)*IntKind.u64.wrap c)).toNat (0:Int)).length≤(List.replicate (IntKind.i64.wrap (IntKind.u64.wrap (↑[x].length:Int)*IntKind.u64.wrap c)).toNat (0:Int)).length) then(0≤(↑(min [x].length (List.replicate (IntKind.i64.wrap (IntKind.u64.wrap (↑[x].length:Int)*IntKind.u64.wrap c)).toNat (0:Int)).length):Int)∧(↑(min [x].length (List.replicate (IntKind.i64.wrap (IntKind.u64.wrap (↑[x].length:Int)*IntKind.u64.wrap c)).toNat (0:Int)).length):Int)≤(↑(List.take (List.replicate (IntKind.i64.wrap (IntKind.u64.wrap (↑[x].length:Int)*IntKind.u64.wrap c)).toNat (0:Int)).length [x]++List.drop (0+min [x].length (List.replicate (IntKind.i64.wrap (IntKind.u64.wrap (↑[x].length:Int)*IntKind.u64.wrap c)).toNat (0:Int)).length) (List.replicate (IntKind.i64.wrap (IntKind.u64.wrap (↑[x].length:Int)*IntKind.u64.wrap c)).toNat (0:Int))).length:Int)∧(0<(↑(min [x].length (List.replicate (IntKind.i64.wrap (IntKind.u64.wrap (↑[x].length:Int)*IntKind.u64.wrap c)).toNat (0:Int)).length):Int)∨(List.take (List.replicate (IntKind.i64.wrap (IntKind.u64.wrap (↑[x].length:Int)*IntKind.u64.wrap c)).toNat (0:Int)).length [x]++List.drop (0+min [x].length (List.replicate (IntKind.i64.wrap (IntKind.u64.wrap (↑[x].length:Int)*IntKind.u64.wrap c)).toNat (0:Int)).length) (List.replicate (IntKind.i64.wrap (IntKind.u64.wrap (↑[x].length:Int)*IntKind.u64.wrap c)).toNat (0:Int))).length=0)∧(List.take (List.replicate (IntKind.i64.wrap (IntKind.u64.wrap (↑[x].length:Int)*IntKind.u64.wrap c)).toNat (0:Int)).length [x]++List.drop (0+min [x].length (List.replicate (IntKind.i64.wrap (IntKind.u64.wrap (↑[x].length:Int)*IntKind.u64.wrap c)).toNat (0:Int)).length) (List.replicate (IntKind.i64.wrap (IntKind.u64.wrap (↑[x].length:Int)*IntKind.u64.wrap c)).toNat (0:Int))).length≤1000000000∧List.take (↑(min [x].length (List.replicate (IntKind.i64.wrap (IntKind.u64.wrap (↑[x].length:Int)*IntKind.u64.wrap c)).toNat (0:Int)).length):Int).toNat (List.take (List.replicate (IntKind.i64.wrap (IntKind.u64.wrap (↑[x].length:Int)*IntKind.u64.wrap c)).toNat (0:Int)).length [x]++List.drop (0+min [x].length (List.replicate (IntKind.i64.wrap (IntKind.u64.wrap (↑[x].length:Int)*IntKind.u64.wrap c)).toNat (0:Int)).length) (List.replicate (IntKind.i64.wrap (IntKind.u64.wrap (↑[x].length:Int)*IntKind.u64.wrap c)).toNat (0:Int)))=List.replicate (↑(min [x].length (List.replicate (IntKind.i64.wrap (IntKind.u64.wrap (↑[x].length:Int)*IntKind.u64.wrap c)).toNat (0:Int)).length):Int).toNat ((List.take (List.replicate (IntKind.i64.wrap (IntKind.u64.wrap (↑[x].length:Int)*IntKind.u64.wrap c)).toNat (0:Int)).length [x]++List.drop (0+min [x].length (List.replicate (IntKind.i64.wrap (IntKind.u64.wrap (↑[x].length:Int)*IntKind.u64.wrap c)).toNat (0:Int)).length) (List.replicate (IntKind.i64.wrap (IntKind.u64.wrap (↑[x].length:Int)*IntKind.u64.wrap c)).toNat (0:Int))).getD 0 0))∧K (.one (.own 0 1)) [Blk.row 3 (Row.ints .i64 (List.replicate (List.take (List.replicate (IntKind.i64.wrap (IntKind.u64.wrap (↑[x].length:Int)*IntKind.u64.wrap c)).toNat (0:Int)).length [x]++List.drop (0+min [x].length (List.replicate (IntKind.i64.wrap (IntKind.u64.wrap (↑[x].length:Int)*IntKind.u64.wrap c)).toNat (0:Int)).length) (List.replicate (IntKind.i64.wrap (IntKind.u64.wrap (↑[x].length:Int)*IntKind.u64.wrap c)).toNat (0:Int))).length ((List.take (List.replicate (IntKind.i64.wrap (IntKind.u64.wrap (↑[x].length:Int)*IntKind.u64.wrap c)).toNat (0:Int)).length [x]++List.drop (0+min [x].length (List.replicate (IntKind.i64.wrap (IntKind.u64.wrap (↑[x].length:Int)*IntKind.u64.wrap c)).toNat (0:Int)).length) (List.replicate (IntKind.i64.wrap (IntKind.u64.wrap (↑[x].length:Int)*IntKind.u64.wrap c)).toNat (0:Int))).getD 0 0)))] else False else False):=by kernel_rfl
theorem ex86a(n:Int)(xs:List Int)(K:Ex→List AV→List Blk→Prop):evBody E86 (lb Tryz.f69 0) [7,8] [7] [.one (.own 0 1),.one (.int .i64 n)] [.row 3 (.ints .i64 xs)] K=(bif decide (n<(↑xs.length:Int)) then bif decide (0≤n)&&(decide (xs.length≤xs.length)&&decide (n.toNat≤xs.length)) then bif decide (0≤n)&&(decide (n.toNat≤xs.length)&&decide (0≤n.toNat)) then bif decide (0+(n.toNat-0)≤xs.length)&&decide (n.toNat+(xs.length-n.toNat)≤xs.length) then K .normal [.one (.own 0 1),.one (.int .i64 (IntKind.i64.wrap (n+(↑(min (List.take (n.toNat-0) xs).length (xs.length-n.toNat)):Int))))] [Blk.row 3 (Row.ints .i64 (List.take n.toNat xs++List.take (xs.length-n.toNat) (List.take (n.toNat-0) xs)++List.drop (n.toNat+min (List.take (n.toNat-0) xs).length (xs.length-n.toNat)) xs))] else False else False else False else K (.exit 0) [.one (.own 0 1)] [Blk.row 3 (Row.ints .i64 xs)]):=by kernel_rfl
end Go.Ev
namespace Go.Ev
open Go Go.Proofs
attribute [local irreducible] evFn evBody
set_option maxRecDepth 20000
theorem wi_id{n:Int}(h1: -9223372036854775808≤n)(h2:n<9223372036854775808):wi n=n:=wrap_id h1 h2
theorem ok106:SpecOK Tryz.prog 74 expectedS:=by
 refine specOK (n:=17) (m:=0) (lps:=[]) .nil Tryz.func74 (by kernel_rfl) (by kernel_rfl) (noLoops (by kernel_rfl)) fun args σ K h=> ?_
 unfold expectedS at h
 split at h
 ·rename_i p l b
  refine(ex106 p l b K).mpr ?_
  unfold expG at h
  cases h1:p==1 with
  |true=>rw[h1] at h;exact h
  |false=>
   cases h2:p==2 with
   |true=>rw[h1,h2] at h;exact h
   |false=>rw[h1,h2] at h;exact h
 ·exact h.elim
theorem codL_step{p last bef i:Int}{xs out:List Int}{K:List Int→Prop}(h0:0≤i)(hi:i<xs.length)(ho:i<out.length)(v:Int)(hv:v=foldG (wi (xs.getD i.toNat 0-expG p last bef)))
  (h:K (out.take i.toNat++codR p last bef (xs.drop i.toNat))):K ((out.set i.toNat v).take (i+1).toNat++codR p (xs.getD i.toNat 0) last (xs.drop (i+1).toNat)):=by
 rw[drop_step 0 (by omega)] at h
 rw[show(i+1).toNat=i.toNat+1 by omega,take_set_succ (by omega),List.append_assoc,hv]
 exact h
theorem lok85:LoopOK E85 (lb Tryz.f68 0) [1,4,5,6,7,11,12] [4,5] codL:=by
 refine loopOK (.cons ok106 .nil) (noInner (by kernel_rfl)) (fun vs _=>match vs with
  |[_,_,_,_,_,_,.one (.int .i64 i)]=>8-i.toNat
  |_=>0) fun vs σ k h=> ?_
 unfold codL at h
 split at h
 ·rename_i p last bef x0 x1 x2 x3 x4 x5 x6 x7 i z out
  obtain⟨⟨h1,h2,h3⟩,h⟩:=h
  refine(ex85a p last bef x0 x1 x2 x3 x4 x5 x6 x7 i z out _).mpr ?_
  by_cases hi:i<8
  ·have hw:IntKind.i64.wrap (i+1)=i+1:=wrap_id (by omega) (by omega)
   have hi':i.toNat<out.length:=by omega
   simp only[stepN_one,hi,hi',h1,hw,decide_true,Bool.and_self,cond_true,Nat.zero_add,Nat.add_zero]
   have key: ∀v,v=foldG (wi ([x0,x1,x2,x3,x4,x5,x6,x7].getD i.toNat 0-expG p last bef))→((0≤i+1∧i+1≤8∧(out.set i.toNat v).length=8)∧
     k (.exit 0) [.one (.ptr 0 1 0 0),.one (.ptr 1 1 0 0)] [.row 119 (.ints .i64 z),.row 119 (.ints .i64 ((out.set i.toNat v).take (i+1).toNat++codR p ([x0,x1,x2,x3,x4,x5,x6,x7].getD i.toNat 0) last ([x0,x1,x2,x3,x4,x5,x6,x7].drop (i+1).toNat)))]):=fun v hv=>
    ⟨⟨by omega,by omega,by simpa using h3⟩,codL_step (K:=fun l=>k (.exit 0) [.one (.ptr 0 1 0 0),.one (.ptr 1 1 0 0)] [.row 119 (.ints .i64 z),.row 119 (.ints .i64 l)]) h1 (by simpa using hi) (by omega) v hv h⟩
   have hmu:8-(i+1).toNat<8-i.toNat:=by omega
   cases hr:decide (IntKind.i64.wrap ([x0,x1,x2,x3,x4,x5,x6,x7].getD i.toNat 0-expG p last bef)≥0) with
   |true=>exact⟨key (IntKind.i64.wrap (2*IntKind.i64.wrap ([x0,x1,x2,x3,x4,x5,x6,x7].getD i.toNat 0-expG p last bef))) (by unfold foldG wi;rw[hr];rfl),hmu⟩
   |false=>exact⟨key (IntKind.i64.wrap (IntKind.i64.wrap (-2*IntKind.i64.wrap ([x0,x1,x2,x3,x4,x5,x6,x7].getD i.toNat 0-expG p last bef))-1)) (by unfold foldG wi;rw[hr];rfl),hmu⟩
  ·have e:i=8:=by omega
   subst e
   simp only[hi,decide_false,cond_false]
   have e2:out.take (8:Int).toNat++codR p last bef ([x0,x1,x2,x3,x4,x5,x6,x7].drop (8:Int).toNat)=out:=by
    show out.take 8++[]=out
    rw[List.append_nil,List.take_of_length_le (by omega)]
   rw[e2] at h
   exact h
 ·exact h.elim
theorem ok85:SpecOK Tryz.prog 68 codedS:=by
 refine specOK (n:=37) (m:=0) (lps:=[(4,.spec [1,4,5,6,7,11,12] [4,5] codL)]) (.cons ok106 .nil) Tryz.func68 (by kernel_rfl) (by kernel_rfl) (theLoops (n:=1) (by kernel_rfl) fun i hi=> ?_) fun args σ K h=> ?_
 ·match i,hi with
  |0,_=>exact loopHyp_of (key:=4) (by kernel_rfl) rfl lok85
 ·unfold codedS at h
  split at h
  ·rename_i x0 x1 x2 x3 x4 x5 x6 x7 p
   unfold ag8 codG at h
   rw[ex85 x0 x1 x2 x3 x4 x5 x6 x7 p K]
   exact⟨⟨by omega,by omega,rfl⟩,h⟩
  ·exact h.elim
theorem exp_range{p l b:Int}(hl: -32767≤l∧l≤32767)(hb: -32767≤b∧b≤32767): -98301≤expG p l b∧expG p l b≤98301:=by
 unfold expG
 cases p==1 with
 |true=>dsimp only [cond_true];omega
 |false=>
  cases p==2 with
  |true=>
   dsimp only [cond_true,cond_false]
   rw[wi_id (n:=2*l) (by omega) (by omega),wi_id (by omega) (by omega)]
   omega
  |false=>dsimp only [cond_false];omega
theorem fold_range{r:Int}(h: -131068≤r∧r≤131068):0≤foldG r∧foldG r≤262136:=by
 unfold foldG
 by_cases h0:r≥0
 ·simp only[h0,decide_true,cond_true]
  rw[wi_id (by omega) (by omega)]
  omega
 ·simp only[h0,decide_false,cond_false]
  rw[wi_id (n:= -2*r) (by omega) (by omega),wi_id (by omega) (by omega)]
  omega
theorem codR_range{p:Int}: ∀{xs:List Int} {l b:Int},(∀x ∈ xs,-32767≤x∧x≤32767)→(-32767≤l∧l≤32767)→(-32767≤b∧b≤32767)→ ∀u ∈ codR p l b xs,0≤u∧u≤262136
 |[],_,_,_,_,_,u,hu=>by simp[codR] at hu
 |x::xs,l,b,hx,hl,hb,u,hu=>by
  have hx0:=hx x (by simp)
  simp only[codR,List.mem_cons] at hu
  rcases hu with rfl|hu
  ·have he:=exp_range (p:=p) hl hb
   rw[wi_id (by omega) (by omega)]
   exact fold_range (by omega)
  ·exact codR_range (fun y hy=>hx y (by simp[hy])) hx0 hl u hu
theorem cod_range{p:Int}{xs:List Int}(h:xs.all sampleG=true): ∀u ∈ codG p xs,0≤u∧u≤262136:=
 codR_range (fun x hx=>sample_range (List.all_eq_true.1 h x hx)) (by decide) (by decide)
theorem cod_eight(p x0 x1 x2 x3 x4 x5 x6 x7:Int): ∃u0 u1 u2 u3 u4 u5 u6 u7,codG p [x0,x1,x2,x3,x4,x5,x6,x7]=[u0,u1,u2,u3,u4,u5,u6,u7]:=⟨_,_,_,_,_,_,_,_,rfl⟩
theorem ok83:SpecOK Tryz.prog 66 lengthS:=by
 refine specOK (n:=26) (m:=0) (lps:=[(3,.unroll 9)]) (.cons ok85 .nil) Tryz.func66 (by kernel_rfl) (by kernel_rfl) (theLoops (n:=1) (by kernel_rfl) fun i hi=> ?_) fun args σ K h=> ?_
 ·match i,hi with
  |0,_=>exact loopHyp_none (key:=3) (n:=9) (by kernel_rfl) rfl
 ·unfold lengthS at h
  split at h
  ·rename_i x0 x1 x2 x3 x4 x5 x6 x7 p k
   obtain⟨⟨hs,hk0,hk1⟩,h⟩:=h
   have e83:=ex83 x0 x1 x2 x3 x4 x5 x6 x7 p k K
   rw[e83]
   clear e83
   have hr:=cod_range (p:=p) hs
   unfold lenG at h
   obtain⟨u0,u1,u2,u3,u4,u5,u6,u7,e⟩:=cod_eight p x0 x1 x2 x3 x4 x5 x6 x7
   rw[e] at h hr ⊢
   have hk:¬k<0:=by omega
   simp only[hk,decide_false,Bool.not_false,cond_true]
   simp only[List.mem_cons,List.not_mem_nil,or_false,forall_eq_or_imp,forall_eq] at hr
   obtain⟨r0,r1,r2,r3,r4,r5,r6,r7⟩:=hr
   replace r0:=fdiv_range (min k.toNat 64) r0
   replace r1:=fdiv_range (min k.toNat 64) r1
   replace r2:=fdiv_range (min k.toNat 64) r2
   replace r3:=fdiv_range (min k.toNat 64) r3
   replace r4:=fdiv_range (min k.toNat 64) r4
   replace r5:=fdiv_range (min k.toNat 64) r5
   replace r6:=fdiv_range (min k.toNat 64) r6
   replace r7:=fdiv_range (min k.toNat 64) r7
   simp only[lenR,shrG] at h
   show K (.one (.int .i64 _)) []
   simp only[List.getD_cons_zero,List.getD_cons_succ]
   generalize u0.fdiv (2^min k.toNat 64)=s0 at *
   generalize u1.fdiv (2^min k.toNat 64)=s1 at *
   generalize u2.fdiv (2^min k.toNat 64)=s2 at *
   generalize u3.fdiv (2^min k.toNat 64)=s3 at *
   generalize u4.fdiv (2^min k.toNat 64)=s4 at *
   generalize u5.fdiv (2^min k.toNat 64)=s5 at *
   generalize u6.fdiv (2^min k.toNat 64)=s6 at *
   generalize u7.fdiv (2^min k.toNat 64)=s7 at *
   simp(disch:=omega) only [wrap_id]
   refine cast (congrArg (fun n=>K (.one (.int .i64 n)) []) ?_) h
   omega
  ·exact h.elim
theorem bitsN_step(n:Int){i:Int}(h:0≤i):bitsN n (i+1).toNat=bitG n i.toNat::bitsN n i.toNat:=by
 rw[show(i+1).toNat=i.toNat+1 by omega]
 rfl
theorem lok84a:LoopOK E84a (lb Tryz.f67 0) [0,1,6] [] wrL1:=by
 refine loopOK .nil (noInner (by kernel_rfl)) (fun vs _=>match vs with
  |[_,_,.one (.int .i64 i)]=>(i+1).toNat
  |_=>0) fun vs σ k h=> ?_
 unfold wrL1 at h
 split at h
 ·rename_i n i
  obtain⟨⟨h1,h2⟩,h⟩:=h
  refine(ex84c n i _).mpr ?_
  by_cases hi:i≥0
  ·have hw:IntKind.i64.wrap (i-1)=i-1:=wrap_id (by omega) (by omega)
   have hn:¬i<0:=by omega
   simp only[hi,hn,decide_true,decide_false,Bool.not_false,cond_true,hw] at h ⊢
   refine⟨⟨⟨by omega,by omega,by show(1:Int)+(i-1)≤_;omega⟩,?_⟩,by first|omega|(dsimp only;omega)⟩
   rw[bitsN_step n hi] at h
   rw[show i-1+1=i by omega]
   exact h
  ·simp only[hi,decide_false,cond_false] at h ⊢
   exact h
 ·rename_i n i xs
  obtain⟨⟨h1,h2,h3⟩,h⟩:=h
  refine(ex84d n i xs _).mpr ?_
  by_cases hi:i≥0
  ·have hw:IntKind.i64.wrap (i-1)=i-1:=wrap_id (by omega) (by omega)
   have hn:¬i<0:=by omega
   have hl: ∀b:Int,(xs++[b]).length*8≤140737488355328∧(xs++[b]).length≤140737488355328:=fun b=>by simp;omega
   simp only[hi,hn,hl,and_self,decide_true,decide_false,Bool.not_false,cond_true,hw]
   refine⟨⟨⟨by omega,by omega,by simp;omega⟩,?_⟩,by first|omega|(dsimp only;omega)⟩
   rw[bitsN_step n hi] at h
   rw[show i-1+1=i by omega,List.append_assoc]
   exact h
  ·simp only[hi,decide_false,cond_false]
   rw[show(i+1).toNat=0 by omega] at h
   simp only[bitsN,List.append_nil] at h
   exact h
 ·exact h.elim
theorem lok84b:LoopOK E84b (lb Tryz.f67 0) [0,1,6] [] wrL2:=by
 refine loopOK .nil (noInner (by kernel_rfl)) (fun vs _=>match vs with
  |[_,_,.one (.int .i64 i)]=>(i+1).toNat
  |_=>0) fun vs σ k h=> ?_
 unfold wrL2 at h
 split at h
 ·rename_i n i xs
  obtain⟨⟨h1,h2,h3⟩,h⟩:=h
  refine(ex84e n i xs _).mpr ?_
  by_cases hi:i≥0
  ·have hw:IntKind.i64.wrap (i-1)=i-1:=wrap_id (by omega) (by omega)
   have hn:¬i<0:=by omega
   have hl: ∀b:Int,(xs++[b]).length*8≤140737488355328∧(xs++[b]).length≤140737488355328:=fun b=>by simp;omega
   simp only[hi,hn,hl,and_self,decide_true,decide_false,Bool.not_false,cond_true,hw] at h ⊢
   refine⟨⟨⟨by omega,by omega,by simp;omega⟩,?_⟩,by first|omega|(dsimp only;omega)⟩
   rw[bitsN_step n hi] at h
   rw[show i-1+1=i by omega,List.append_assoc]
   exact h
  ·simp only[hi,decide_false,cond_false] at h ⊢
   exact h
 ·rename_i n i xs
  obtain⟨⟨h1,h2,h3⟩,h⟩:=h
  refine(ex84f n i xs _).mpr ?_
  by_cases hi:i≥0
  ·have hw:IntKind.i64.wrap (i-1)=i-1:=wrap_id (by omega) (by omega)
   have hn:¬i<0:=by omega
   have hl: ∀b:Int,(xs++[b]).length*8≤140737488355328∧(xs++[b]).length≤140737488355328:=fun b=>by simp;omega
   simp only[hi,hn,hl,and_self,decide_true,decide_false,Bool.not_false,cond_true,hw]
   refine⟨⟨⟨by omega,by omega,by simp;omega⟩,?_⟩,by first|omega|(dsimp only;omega)⟩
   rw[bitsN_step n hi] at h
   rw[show i-1+1=i by omega,List.append_assoc]
   exact h
  ·simp only[hi,decide_false,cond_false]
   rw[show(i+1).toNat=0 by omega] at h
   simp only[bitsN,List.append_nil] at h
   exact h
 ·exact h.elim
theorem ok84a:SpecOK Tryz.prog 67 writeS1:=by
 refine specOK (n:=24) (m:=1) (lps:=[(1,.spec [0,1,6] [] wrL1)]) .nil Tryz.func67 (by kernel_rfl) (by kernel_rfl) (theLoops (n:=1) (by kernel_rfl) fun i hi=> ?_) fun args σ K h=> ?_
 ·match i,hi with
  |0,_=>exact loopHyp_of (key:=1) (by kernel_rfl) rfl lok84a
 ·unfold writeS1 at h
  split at h
  ·rename_i n c
   obtain⟨⟨h1,h2⟩,h⟩:=h
   refine(ex84a n c K).mpr ?_
   have hw:IntKind.i64.wrap (c-1)=c-1:=wrap_id (by omega) (by omega)
   rw[hw,show c-1+1=c by omega]
   refine⟨⟨by omega,by omega⟩,?_⟩
   rw[show decide (c-1≥0)=decide (c>0) from decide_eq_decide.2 (by omega)]
   exact h
  ·exact h.elim
theorem ok84b:SpecOK Tryz.prog 67 writeS2:=by
 refine specOK (n:=24) (m:=2) (lps:=[(1,.spec [0,1,6] [] wrL2)]) .nil Tryz.func67 (by kernel_rfl) (by kernel_rfl) (theLoops (n:=1) (by kernel_rfl) fun i hi=> ?_) fun args σ K h=> ?_
 ·match i,hi with
  |0,_=>exact loopHyp_of (key:=1) (by kernel_rfl) rfl lok84b
 ·unfold writeS2 at h
  split at h
  ·rename_i n c xs
   obtain⟨⟨h1,h2,h3⟩,h⟩:=h
   refine(ex84b n c xs K).mpr ?_
   have hw:IntKind.i64.wrap (c-1)=c-1:=wrap_id (by omega) (by omega)
   rw[hw,show c-1+1=c by omega]
   refine⟨⟨by omega,by omega,by omega⟩,?_⟩
   rw[show decide (c-1≥0)=decide (c>0) from decide_eq_decide.2 (by omega)]
   exact h
  ·exact h.elim
theorem ok84:SpecOK Tryz.prog 67 (byS writeS1 writeS2):=ok84a.mk2 ok84b fun args σ K h=>by
 unfold byS at h
 split at h
 ·exact .inl h
 ·exact .inr h
theorem ok139:SpecOK Tryz.prog 127 mul64S:=by
 refine specOK (n:=51) (m:=0) (lps:=[]) .nil Tryz.func127 (by kernel_rfl) (by kernel_rfl) (noLoops (by kernel_rfl)) fun args σ K h=> ?_
 unfold mul64S at h
 split at h
 ·rename_i x y
  obtain⟨⟨x0,x1,y0,y1⟩,h⟩:=h
  rw[ex139 x y K]
  have fx:x.fdiv 4294967296=0:=by rw[Int.fdiv_eq_ediv_of_nonneg _ (by decide)];omega
  have fy:y.fdiv 4294967296=0:=by rw[Int.fdiv_eq_ediv_of_nonneg _ (by decide)];omega
  have hxy:0≤x*y∧x*y≤4611686014132420609:=⟨Int.mul_nonneg x0 y0,by
   have e1:x*y≤2147483647*y:=Int.mul_le_mul_of_nonneg_right x1 y0
   omega⟩
  have ax:((BitVec.ofInt 64 x &&& BitVec.ofInt 64 4294967295).toNat:Int)=x:=by rw[and_mask x0 (by omega) 32 _ (by decide) (by decide)];omega
  have ay:((BitVec.ofInt 64 y &&& BitVec.ofInt 64 4294967295).toNat:Int)=y:=by rw[and_mask y0 (by omega) 32 _ (by decide) (by decide)];omega
  have w0:IntKind.u64.wrap 0=0:=wrapu_id (by decide) (by decide)
  have wx:IntKind.u64.wrap x=x:=wrapu_id x0 (by omega)
  have wy:IntKind.u64.wrap y=y:=wrapu_id y0 (by omega)
  have wxy:IntKind.u64.wrap (x*y)=x*y:=wrapu_id hxy.1 (by omega)
  have fxy:(x*y).fdiv 4294967296=x*y/4294967296:=Int.fdiv_eq_ediv_of_nonneg _ (by decide)
  have wq:IntKind.u64.wrap (x*y/4294967296)=x*y/4294967296:=wrapu_id (by omega) (by omega)
  have aq:((BitVec.ofInt 64 (x*y/4294967296) &&& BitVec.ofInt 64 4294967295).toNat:Int)=x*y/4294967296:=by rw[and_mask (by omega) (by omega) 32 _ (by decide) (by decide)];omega
  have f0:(x*y/4294967296).fdiv 4294967296=0:=by rw[Int.fdiv_eq_ediv_of_nonneg _ (by decide)];omega
  simp only[fx,fy,ax,ay,wx,wy,Int.zero_mul,Int.mul_zero,w0,wxy,fxy,Int.zero_add,Int.add_zero,wq,aq,f0]
  exact h
 ·exact h.elim
theorem ok127:SpecOK Tryz.prog 104 mul64S:=by
 refine specOK (n:=30) (m:=0) (lps:=[]) (.cons ok139 .nil) Tryz.func104 (by kernel_rfl) (by kernel_rfl) (noLoops (by kernel_rfl)) fun args σ K h=> ?_
 unfold mul64S at h
 split at h
 ·exact(ex127 _ _ K).mpr h
 ·exact h.elim
theorem rep_step{xs:List Int}{n m:Nat}(h1:0<n)(h2:n≤xs.length)(hm:m=min n (xs.length-n))(h:xs.take n=List.replicate n (xs.getD 0 0)):
  ((xs.take n++(xs.take n).take (xs.length-n)++xs.drop (n+m)).length=xs.length∧(xs.take n++(xs.take n).take (xs.length-n)++xs.drop (n+m)).getD 0 0=xs.getD 0 0∧
   (xs.take n++(xs.take n).take (xs.length-n)++xs.drop (n+m)).take (n+m)=List.replicate (n+m) (xs.getD 0 0)):=by
 have e:(xs.take n).take (xs.length-n)=List.replicate m (xs.getD 0 0):=by
  rw[h,List.take_replicate,hm,Nat.min_comm]
 refine⟨by rw[e];simp;omega,?_,?_⟩
 ·rw[h,List.append_assoc]
  obtain⟨n,rfl⟩: ∃k,n=k+1:=⟨n-1,by omega⟩
  rfl
 ·rw[e,h,List.replicate_append_replicate]
  rw[List.take_append_of_le_length (by simp),List.take_of_length_le (by simp)]
theorem lok86:LoopOK E86 (lb Tryz.f69 0) [7,8] [7] repL:=by
 refine loopOK (.cons ok127 .nil) (noInner (by kernel_rfl)) (fun vs σ=>match vs,σ with
  |[_,.one (.int .i64 n)],[.row _ (.ints _ xs)]=>xs.length-n.toNat
  |_,_=>0) fun vs σ k h=> ?_
 unfold repL at h
 split at h
 ·rename_i n xs
  obtain⟨⟨h1,h2,h3,h4,h5⟩,h⟩:=h
  refine(ex86a n xs _).mpr ?_
  by_cases hn:n<xs.length
  ·have hpos:0<n:=by omega
   have d1:n.toNat≤xs.length:=by omega
   have d2:n.toNat+(xs.length-n.toNat)≤xs.length:=by omega
   have e0:(xs.take n.toNat).length=n.toNat:=by simp;omega
   simp only[hn,h1,d1,d2,Nat.sub_zero,Nat.zero_add,Nat.zero_le,Nat.le_refl,decide_true,Bool.and_self,cond_true,e0]
   obtain⟨r1,r2,r3⟩:=rep_step (m:=min n.toNat (xs.length-n.toNat)) (by omega) d1 rfl h5
   have hw:IntKind.i64.wrap (n+((min n.toNat (xs.length-n.toNat):Nat):Int))=n+((min n.toNat (xs.length-n.toNat):Nat):Int):=wrap_id (by omega) (by omega)
   rw[hw]
   have e1:(n+((min n.toNat (xs.length-n.toNat):Nat):Int)).toNat=n.toNat+min n.toNat (xs.length-n.toNat):=by omega
   refine⟨⟨⟨by omega,by rw[r1];omega,.inl (by omega),by rw[r1];exact h4,?_⟩,?_⟩,?_⟩
   ·rw[e1,r2,r3]
   ·rw[r1,r2];exact h
   ·show(_:Nat)-_<_-_
    rw[e1,r1]
    omega
  ·have e:n.toNat=xs.length:=by omega
   simp only[hn,decide_false,cond_false]
   rw[e,List.take_of_length_le (Nat.le_refl _)] at h5
   rw[← h5] at h
   exact h
 ·exact h.elim
theorem ok86:SpecOK Tryz.prog 69 repeatS:=by
 refine specOK (n:=48) (m:=0) (lps:=[(8,.spec [7,8] [7] repL)]) (.cons ok127 .nil) Tryz.func69 (by kernel_rfl) (by kernel_rfl) (theLoops (n:=1) (by kernel_rfl) fun i hi=> ?_) fun args σ K h=> ?_
 ·match i,hi with
  |0,_=>exact loopHyp_of (key:=8) (by kernel_rfl) rfl lok86
 ·unfold repeatS at h
  split at h
  ·rename_i x c
   obtain⟨⟨h1,h2⟩,h⟩:=h
   refine(ex86 x c K).mpr ?_
   have w1:IntKind.u64.wrap (([x].length:Nat):Int)=1:=wrapu_id (by simp) (by simp)
   have wc:IntKind.u64.wrap c=c:=wrapu_id h1 (by omega)
   have wi':IntKind.i64.wrap c=c:=wrap_id (by omega) (by omega)
   have hn:¬c<0:=by omega
   have hg:¬c>9223372036854775807:=by omega
   have hb:c*8≤140737488355328∧c≤140737488355328:=by omega
   simp only[w1,wc,Int.one_mul,wi',hn,hg,hb,h1,decide_false,decide_true,cond_false,cond_true,Nat.zero_add,Nat.le_refl,Bool.and_self,Int.le_refl,List.length_replicate,and_self]
   refine⟨⟨by omega,by omega,trivial,by omega⟩,?_⟩
   have hm:((min [x].length c.toNat:Nat):Int).toNat=min 1 c.toNat:=rfl
   have e1:(List.take c.toNat [x]++List.drop (min [x].length c.toNat) (List.replicate c.toNat (0:Int))).length=c.toNat:=by simp;omega
   have e2:List.take (min 1 c.toNat) (List.take c.toNat [x]++List.drop (min [x].length c.toNat) (List.replicate c.toNat (0:Int)))=List.replicate (min 1 c.toNat) ((List.take c.toNat [x]++List.drop (min [x].length c.toNat) (List.replicate c.toNat (0:Int))).getD 0 0)∧
     List.replicate c.toNat ((List.take c.toNat [x]++List.drop (min [x].length c.toNat) (List.replicate c.toNat (0:Int))).getD 0 0)=List.replicate c.toNat x:=by
    cases c.toNat with
    |zero=>simp
    |succ n=>simp
   rw[hm,e1,e2.2]
   refine⟨⟨by omega,by simp;omega,?_,by omega,e2.1⟩,h⟩
   by_cases hc:c.toNat=0
   ·exact .inr hc
   ·left;simp;omega
  ·exact h.elim
end Go.Ev
namespace Go.Ev
open Go Go.Proofs
set_option maxRecDepth 20000
abbrev Tri:=Int × Int × Int
def bst(xs:List Int)(p k:Int)(s:Tri):Tri:=bif s.1==0 then(lenG p k xs,p,k) else bif decide (lenG p k xs<s.1) then(lenG p k xs,p,k) else s
def bestK(xs:List Int)(p:Int):Nat→Int→Tri→Tri
 |0,_,s=>s
 |n+1,k,s=>bestK xs p n (k+1) (bst xs p k s)
def bestP(xs:List Int):Nat→Int→Tri→Tri
 |0,_,s=>s
 |n+1,p,s=>bestP xs n (p+1) (bestK xs p 18 0 s)
def bestG(xs:List Int):Tri:=bestP xs 3 0 (0,0,0)
def codesG(k:Int):List Int→List Int
 |[]=>[]
 |u::l=>(List.replicate (u.fdiv (2^min k.toNat 64)).toNat 1++[0]++bitsN u k.toNat)++codesG k l
def packG(xs:List Int):List Int:=bitsN (bestG xs).2.1 2++bitsN (bestG xs).2.2 5++codesG (bestG xs).2.2 (codG (bestG xs).2.1 xs)
def innerL:LSpec:=fun vs σ k=>match vs,σ with
 |[.one (.ptr 0 1 0 0),.one (.int .i64 b),.one (.int .i64 bp),.one (.int .i64 bk),.one (.int .i64 p),.one (.int .i64 q),.one (.int .i64 i)],[.row 22 (.ints .i64 [x0,x1,x2,x3,x4,x5,x6,x7])]=>
  ([x0,x1,x2,x3,x4,x5,x6,x7].all sampleG=true∧0≤i∧i≤18)∧k (.exit 2) [.one (.ptr 0 1 0 0),.one (.int .i64 (bestK [x0,x1,x2,x3,x4,x5,x6,x7] p (18-i).toNat i (b,bp,bk)).1),.one (.int .i64 (bestK [x0,x1,x2,x3,x4,x5,x6,x7] p (18-i).toNat i (b,bp,bk)).2.1),.one (.int .i64 (bestK [x0,x1,x2,x3,x4,x5,x6,x7] p (18-i).toNat i (b,bp,bk)).2.2),.one (.int .i64 q)] [.row 22 (.ints .i64 [x0,x1,x2,x3,x4,x5,x6,x7])]
 |_,_=>False
def outerL:LSpec:=fun vs σ k=>match vs,σ with
 |[.one (.ptr 0 1 0 0),.one (.int .i64 b),.one (.int .i64 bp),.one (.int .i64 bk),.one (.int .i64 p)],[.row 22 (.ints .i64 [x0,x1,x2,x3,x4,x5,x6,x7])]=>
  ([x0,x1,x2,x3,x4,x5,x6,x7].all sampleG=true∧0≤p∧p≤3)∧k (.exit 0) [.one (.ptr 0 1 0 0),.one (.int .i64 (bestP [x0,x1,x2,x3,x4,x5,x6,x7] (3-p).toNat p (b,bp,bk)).2.1),.one (.int .i64 (bestP [x0,x1,x2,x3,x4,x5,x6,x7] (3-p).toNat p (b,bp,bk)).2.2)] [.row 22 (.ints .i64 [x0,x1,x2,x3,x4,x5,x6,x7])]
 |_,_=>False
def okU(u:Int):Bool:=decide (0≤u)&&decide (u≤262136)
def codesL:LSpec:=fun vs σ k=>match vs,σ with
 |[.one (.int .i64 c),.one (.ptr 0 1 0 0),.agg [.int .i64 u0,.int .i64 u1,.int .i64 u2,.int .i64 u3,.int .i64 u4,.int .i64 u5,.int .i64 u6,.int .i64 u7],.one (.int .i64 i)],[.cells [.own 1 1],.row 3 (.ints .i64 xs)]=>
  (0≤c∧c≤17∧0≤i∧i≤8∧(xs.length:Int)≤1000000*(i+1)∧[u0,u1,u2,u3,u4,u5,u6,u7].all okU=true)∧
  k (.exit 4) [.one (.ptr 0 1 0 0)] [.cells [.own 1 1],.row 3 (.ints .i64 (xs++codesG c ([u0,u1,u2,u3,u4,u5,u6,u7].drop i.toNat)))]
 |_,_=>False
def packedS:Spec:=fun args σ K=>match args,σ with
 |[.agg [.int .i64 x0,.int .i64 x1,.int .i64 x2,.int .i64 x3,.int .i64 x4,.int .i64 x5,.int .i64 x6,.int .i64 x7]],[]=>bif [x0,x1,x2,x3,x4,x5,x6,x7].all sampleG then K (.tup [.one (.own 0 1),.one (.int .i64 0)]) [.row 3 (.ints .i64 (packG [x0,x1,x2,x3,x4,x5,x6,x7]))] else K (.tup [.one .nil,.one (.int .i64 2)]) []
 |_,_=>False
noncomputable abbrev E28:Env:=envOf Tryz.prog [(65,samplesS),(66,lengthS),(67,byS writeS1 writeS2),(68,codedS),(69,repeatS)] [(6,.spec [1,5,6,7,19] [1,6,7] outerL),(9,.spec [1,5,6,7,8,19,22] [1,5,6,7,19] innerL),(20,.spec [7,11,47,48] [11] codesL)] 66 0
end Go.Ev
