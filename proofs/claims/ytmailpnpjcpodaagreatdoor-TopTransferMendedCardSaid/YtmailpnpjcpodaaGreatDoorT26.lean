/-
  Part of the proof that TopTransferMended holds.
-/
import Derived.Test.YtmailpnpjcpodaaGreatDoorT25
set_option linter.unusedVariables false
set_option linter.unusedSimpArgs false
set_option linter.unusedSectionVars false
namespace Go.Ev
open Go Go.Proofs
set_option maxRecDepth 20000
def keptJ(Q:List Int):Int→Nat→List Int
 |_,0=>[]
 |j,c+1=>bif memB j Q then keptJ Q (j+1) c else j::keptJ Q (j+1) c
def okIx(L:List Int)(n:Nat):Prop:= ∀x ∈ L,0≤x∧x<n
def facs(L:List Int)(j:Int):List Int:=L.map fun i=>facG i j
def rhsF(D P:List (List Int))(L:List Int)(j:Int)(a:Nat):Int:=modG (modG ((P.getD j.toNat []).getD a 0)-parR L j a 0 0 D)
def eqR(D P:List (List Int))(L:List Int)(j:Int)(a:Nat):List Int:=facs L j++[rhsF D P L j a]
def eqsF(D P:List (List Int))(L K:List Int)(a:Nat):List (List Int):=(K.take L.length).map fun j=>eqR D P L j a
def putF:List (List Int)→Nat→List Int→List Int→List (List Int)
 |O,a,i::L,v::V=>putF (O.set i.toNat ((O.getD i.toNat []).set a (v-32768))) a L V
 |O,_,_,_=>O
def resF(D P:List (List Int))(L K:List Int):Nat→Nat→List (List Int)→List (List Int)
 |0,_,O=>O
 |f+1,a,O=>resF D P L K f (a+1) (putF O a L (solV (eqsF D P L K a)))
def rowOk(O:List (List Int))(i:Int):Bool:=okRow (O.getD i.toNat [])
def parAt(O P:List (List Int))(j:Int)(s:Nat):Bool:=parR [] j s 0 0 O==(P.getD j.toNat []).getD s 0
def parFr(O P:List (List Int))(j:Int):Nat→Nat→Bool
 |0,_=>true
 |f+1,s=>parAt O P j s&&parFr O P j f (s+1)
def parOk(O P:List (List Int))(j:Int):Bool:=parFr O P j 8 0
structure okRs(n:Nat)(D P:List (List Int))(L K:List Int):Prop where
 d0:1≤D.length
 d1:D.length≤12
 d8:D.all len8=true
 p1:P.length≤4
 p8:P.all len8=true
 ln:L.length=n
 kn:n≤K.length
 k1:K.length≤4
 li:okIx L D.length
 ki:okIx K P.length
 kb:keptB L 0 D=true
def okOut(D O:List (List Int)):Prop:=O.length=D.length∧O.all len8=true
def kpL:LSpec:=fun vs σ k=>match vs,σ with
 |[.one (.ptr 0 1 0 0),.one .nil,.one (.int .i64 n),.one (.int .i64 j)],[.cells [.data (.mat .i64 8 D),.data (.mat .i64 8 P),.data (.ints .i64 L),.data (.ints .i64 Q)]]=>(okG D P L Q∧n=P.length∧0≤j∧j≤n)∧bif (keptJ Q j (n-j).toNat).isEmpty then k (.exit 0) [.one .nil] [.cells [.data (.mat .i64 8 D),.data (.mat .i64 8 P),.data (.ints .i64 L),.data (.ints .i64 Q)]] else k (.exit 0) [.one (.own 1 1)] [.cells [.data (.mat .i64 8 D),.data (.mat .i64 8 P),.data (.ints .i64 L),.data (.ints .i64 Q)],.row 3 (.ints .i64 (keptJ Q j (n-j).toNat))]
 |[.one (.ptr 0 1 0 0),.one (.own 1 1),.one (.int .i64 n),.one (.int .i64 j)],[.cells [.data (.mat .i64 8 D),.data (.mat .i64 8 P),.data (.ints .i64 L),.data (.ints .i64 Q)],.row 3 (.ints .i64 S)]=>(okG D P L Q∧n=P.length∧0≤j∧j≤n∧S.length≤j)∧k (.exit 0) [.one (.own 1 1)] [.cells [.data (.mat .i64 8 D),.data (.mat .i64 8 P),.data (.ints .i64 L),.data (.ints .i64 Q)],.row 3 (.ints .i64 (S++keptJ Q j (n-j).toNat))]
 |_,_=>False
def rdD:LSpec:=fun vs σ k=>match vs,σ with
 |[.one (.int .i64 j),.one .nil,.one (.data (.ints .i64 L)),.one (.int .i64 n),.one (.int .i64 i)],[]=>(1≤L.length∧L.length≤4∧n=L.length∧i=0∧0≤j∧j≤3∧okIx L 12)∧k (.exit 6) [.one (.own 0 1)] [.row 128 (.ints .i64 (facs L j))]
 |[.one (.int .i64 j),.one (.own 0 1),.one (.data (.ints .i64 L)),.one (.int .i64 n),.one (.int .i64 i)],[.row 128 (.ints .i64 R)]=>(L.length≤4∧n=L.length∧0≤i∧0≤j∧j≤3∧R.length≤i∧i≤n∧okIx L 12)∧k (.exit 6) [.one (.own 0 1)] [.row 128 (.ints .i64 (R++facs (L.drop i.toNat) j))]
 |_,_=>False
def rdE:LSpec:=fun vs σ k=>match vs,σ with
 |[.one (.ptr 0 1 0 0),.one (.own 1 8),.one (.int .i64 a),.one (.own 2 1),.one (.int .i64 n),.one (.int .i64 i)],[.cells [.data (.mat .i64 8 D),.data (.mat .i64 8 P),.data (.ints .i64 L),.data (.ints .i64 Q)],.row 22 (.mat .i64 8 O),.row 128 (.ints .i64 V)]=>(O.all len8=true∧okIx L O.length∧n=V.length∧V.length=L.length∧V.length≤4∧resRow V=true∧0≤a∧a≤7∧0≤i∧i≤n)∧
   k (.exit 8) [] [.cells [.data (.mat .i64 8 D),.data (.mat .i64 8 P),.data (.ints .i64 L),.data (.ints .i64 Q)],.row 22 (.mat .i64 8 (putF O a.toNat (L.drop i.toNat) (V.drop i.toNat))),.row 128 (.ints .i64 V)]
 |_,_=>False
def rdF:LSpec:=fun vs σ k=>match vs,σ with
 |[.one (.own 0 8),.one (.data (.ints .i64 L)),.one (.int .i64 n),.one (.int .i64 i)],[.row 22 (.mat .i64 8 O)]=>(O.all len8=true∧okIx L O.length∧n=L.length∧L.length≤4∧0≤i)∧
   bif (L.drop i.toNat).all (rowOk O) then k (.exit 10) [.any,.any] [.row 22 (.mat .i64 8 O)] else k .ret [.one .nil,.one (.int .i64 13)] [.row 22 (.mat .i64 8 O)]
 |_,_=>False
def rdG:LSpec:=fun vs σ k=>match vs,σ with
 |[.one (.ptr 0 1 0 0),.one (.own 1 8),.one (.own 2 1),.one (.int .i64 n),.one (.int .i64 i)],[.cells [.data (.mat .i64 8 D),.data (.mat .i64 8 P),.data (.ints .i64 L),.data (.ints .i64 Q)],.row 22 (.mat .i64 8 O),.row 3 (.ints .i64 T)]=>(O.length≤12∧O.all len8=true∧O.all okRow=true∧P.all len8=true∧P.length≤4∧okIx T P.length∧n=T.length∧T.length≤4∧0≤i)∧
   bif (T.drop i.toNat).all (parOk O P) then k (.exit 12) [.any,.any] [.cells [.data (.mat .i64 8 D),.data (.mat .i64 8 P),.data (.ints .i64 L),.data (.ints .i64 Q)],.row 22 (.mat .i64 8 O),.row 3 (.ints .i64 T)] else k .ret [.one .nil,.one (.int .i64 13)] [.cells [.data (.mat .i64 8 D),.data (.mat .i64 8 P),.data (.ints .i64 L),.data (.ints .i64 Q)],.row 22 (.mat .i64 8 O),.row 3 (.ints .i64 T)]
 |_,_=>False
def parX(O:List (List Int))(j:Int)(ps:List Int):Nat→Nat→Bool
 |0,_=>true
 |f+1,s=>parR [] j s 0 0 O==ps.getD s 0&&parX O j ps f (s+1)
def rdH:LSpec:=fun vs σ k=>match vs,σ with
 |[.one (.own 0 8),.one (.int .i64 j),.agg [.int .i64 x0,.int .i64 x1,.int .i64 x2,.int .i64 x3,.int .i64 x4,.int .i64 x5,.int .i64 x6,.int .i64 x7],.one (.int .i64 s)],[.row 22 (.mat .i64 8 O)]=>(O.length≤12∧O.all len8=true∧O.all okRow=true∧0≤j∧j≤3∧0≤s∧s≤8)∧
   bif parX O j [x0,x1,x2,x3,x4,x5,x6,x7] (8-s).toNat s.toNat then k (.exit 14) [.any,.any] [.row 22 (.mat .i64 8 O)] else k .ret [.one .nil,.one (.int .i64 13)] [.row 22 (.mat .i64 8 O)]
 |_,_=>False
def rdK(D P:List (List Int))(L Q:List Int)(K:AV→List Blk→Prop):Prop:= bif groE D P L Q==0 then(bif decide ((keptJ Q 0 P.length).length<L.length) then K (.tup [.one .nil,.one (.int .i64 28)]) [] else bif L.all (rowOk (resF D P L (keptJ Q 0 P.length) 8 0 D))&&(keptJ Q 0 P.length).all (parOk (resF D P L (keptJ Q 0 P.length) 8 0 D) P) then K (.tup [.one (.own 0 8),.one (.int .i64 0)]) [.row 22 (.mat .i64 8 (resF D P L (keptJ Q 0 P.length) 8 0 D))] else K (.tup [.one .nil,.one (.int .i64 13)]) []) else K (.tup [.one .nil,.one (.int .i64 (groE D P L Q))]) []
def rdC1:LSpec:=fun vs σ k=>match vs,σ with
 |[.one (.ptr 0 1 0 0),.one (.int .i64 a),.one .nil,.one (.sub 1 1 0 n0),.one (.int .i64 n),.one (.int .i64 r)],[.cells [.data (.mat .i64 8 D),.data (.mat .i64 8 P),.data (.ints .i64 L),.data (.ints .i64 Q)],.row 3 (.ints .i64 T)]=>(n0=1∧okRs 1 D P L T∧0≤a∧a≤7∧n=1∧r=0)∧k (.exit 4) [.one (.own 2 1)] [.cells [.data (.mat .i64 8 D),.data (.mat .i64 8 P),.data (.ints .i64 L),.data (.ints .i64 Q)],.row 3 (.ints .i64 T),.cells [.own 3 1],.row 128 (.ints .i64 (eqR D P L (T.getD 0 0) a.toNat))]
 |[.one (.ptr 0 1 0 0),.one (.int .i64 a),.one (.own 2 1),.one (.sub 1 1 0 n0),.one (.int .i64 n),.one (.int .i64 r)],[.cells [.data (.mat .i64 8 D),.data (.mat .i64 8 P),.data (.ints .i64 L),.data (.ints .i64 Q)],.row 3 (.ints .i64 T),.cells [.own 3 1],.row 128 (.ints .i64 R0)]=>(n0=1∧okRs 1 D P L T∧0≤a∧a≤7∧n=1∧r=1∧R0=eqR D P L (T.getD 0 0) a.toNat)∧k (.exit 4) [.one (.own 2 1)] [.cells [.data (.mat .i64 8 D),.data (.mat .i64 8 P),.data (.ints .i64 L),.data (.ints .i64 Q)],.row 3 (.ints .i64 T),.cells [.own 3 1],.row 128 (.ints .i64 (eqR D P L (T.getD 0 0) a.toNat))]
 |_,_=>False
def rdB1:LSpec:=fun vs σ k=>match vs,σ with
 |[.one (.ptr 0 1 0 0),.one (.own 1 1),.one (.own 2 8),.one (.int .i64 a)],[.cells [.data (.mat .i64 8 D),.data (.mat .i64 8 P),.data (.ints .i64 L),.data (.ints .i64 Q)],.row 3 (.ints .i64 T),.row 22 (.mat .i64 8 O)]=>(okRs 1 D P L T∧okOut D O∧0≤a∧a≤8)∧k (.exit 2) [] [.cells [.data (.mat .i64 8 D),.data (.mat .i64 8 P),.data (.ints .i64 L),.data (.ints .i64 Q)],.row 3 (.ints .i64 T),.row 22 (.mat .i64 8 (resF D P L T (8-a).toNat a.toNat O))]
 |_,_=>False
def rdS1:Spec:=fun args σ K=>match args,σ with
 |[.agg [.data (.mat .i64 8 D),.data (.mat .i64 8 P),.data (.ints .i64 L),.data (.ints .i64 Q)]],[]=>(okG D P L Q∧L.length=1)∧rdK D P L Q K
 |_,_=>False
def rdC2:LSpec:=fun vs σ k=>match vs,σ with
 |[.one (.ptr 0 1 0 0),.one (.int .i64 a),.one .nil,.one (.sub 1 1 0 n0),.one (.int .i64 n),.one (.int .i64 r)],[.cells [.data (.mat .i64 8 D),.data (.mat .i64 8 P),.data (.ints .i64 L),.data (.ints .i64 Q)],.row 3 (.ints .i64 T)]=>(n0=2∧okRs 2 D P L T∧0≤a∧a≤7∧n=2∧r=0)∧k (.exit 4) [.one (.own 2 1)] [.cells [.data (.mat .i64 8 D),.data (.mat .i64 8 P),.data (.ints .i64 L),.data (.ints .i64 Q)],.row 3 (.ints .i64 T),.cells [.own 3 1,.own 4 1],.row 128 (.ints .i64 (eqR D P L (T.getD 0 0) a.toNat)),.row 128 (.ints .i64 (eqR D P L (T.getD 1 0) a.toNat))]
 |[.one (.ptr 0 1 0 0),.one (.int .i64 a),.one (.own 2 1),.one (.sub 1 1 0 n0),.one (.int .i64 n),.one (.int .i64 r)],[.cells [.data (.mat .i64 8 D),.data (.mat .i64 8 P),.data (.ints .i64 L),.data (.ints .i64 Q)],.row 3 (.ints .i64 T),.cells [.own 3 1],.row 128 (.ints .i64 R0)]=>(n0=2∧okRs 2 D P L T∧0≤a∧a≤7∧n=2∧r=1∧R0=eqR D P L (T.getD 0 0) a.toNat)∧k (.exit 4) [.one (.own 2 1)] [.cells [.data (.mat .i64 8 D),.data (.mat .i64 8 P),.data (.ints .i64 L),.data (.ints .i64 Q)],.row 3 (.ints .i64 T),.cells [.own 3 1,.own 4 1],.row 128 (.ints .i64 (eqR D P L (T.getD 0 0) a.toNat)),.row 128 (.ints .i64 (eqR D P L (T.getD 1 0) a.toNat))]
 |[.one (.ptr 0 1 0 0),.one (.int .i64 a),.one (.own 2 1),.one (.sub 1 1 0 n0),.one (.int .i64 n),.one (.int .i64 r)],[.cells [.data (.mat .i64 8 D),.data (.mat .i64 8 P),.data (.ints .i64 L),.data (.ints .i64 Q)],.row 3 (.ints .i64 T),.cells [.own 3 1,.own 4 1],.row 128 (.ints .i64 R0),.row 128 (.ints .i64 R1)]=>(n0=2∧okRs 2 D P L T∧0≤a∧a≤7∧n=2∧r=2∧R0=eqR D P L (T.getD 0 0) a.toNat∧R1=eqR D P L (T.getD 1 0) a.toNat)∧k (.exit 4) [.one (.own 2 1)] [.cells [.data (.mat .i64 8 D),.data (.mat .i64 8 P),.data (.ints .i64 L),.data (.ints .i64 Q)],.row 3 (.ints .i64 T),.cells [.own 3 1,.own 4 1],.row 128 (.ints .i64 (eqR D P L (T.getD 0 0) a.toNat)),.row 128 (.ints .i64 (eqR D P L (T.getD 1 0) a.toNat))]
 |_,_=>False
def rdB2:LSpec:=fun vs σ k=>match vs,σ with
 |[.one (.ptr 0 1 0 0),.one (.own 1 1),.one (.own 2 8),.one (.int .i64 a)],[.cells [.data (.mat .i64 8 D),.data (.mat .i64 8 P),.data (.ints .i64 L),.data (.ints .i64 Q)],.row 3 (.ints .i64 T),.row 22 (.mat .i64 8 O)]=>(okRs 2 D P L T∧okOut D O∧0≤a∧a≤8)∧k (.exit 2) [] [.cells [.data (.mat .i64 8 D),.data (.mat .i64 8 P),.data (.ints .i64 L),.data (.ints .i64 Q)],.row 3 (.ints .i64 T),.row 22 (.mat .i64 8 (resF D P L T (8-a).toNat a.toNat O))]
 |_,_=>False
def rdS2:Spec:=fun args σ K=>match args,σ with
 |[.agg [.data (.mat .i64 8 D),.data (.mat .i64 8 P),.data (.ints .i64 L),.data (.ints .i64 Q)]],[]=>(okG D P L Q∧L.length=2)∧rdK D P L Q K
 |_,_=>False
def rdC3:LSpec:=fun vs σ k=>match vs,σ with
 |[.one (.ptr 0 1 0 0),.one (.int .i64 a),.one .nil,.one (.sub 1 1 0 n0),.one (.int .i64 n),.one (.int .i64 r)],[.cells [.data (.mat .i64 8 D),.data (.mat .i64 8 P),.data (.ints .i64 L),.data (.ints .i64 Q)],.row 3 (.ints .i64 T)]=>(n0=3∧okRs 3 D P L T∧0≤a∧a≤7∧n=3∧r=0)∧k (.exit 4) [.one (.own 2 1)] [.cells [.data (.mat .i64 8 D),.data (.mat .i64 8 P),.data (.ints .i64 L),.data (.ints .i64 Q)],.row 3 (.ints .i64 T),.cells [.own 3 1,.own 4 1,.own 5 1],.row 128 (.ints .i64 (eqR D P L (T.getD 0 0) a.toNat)),.row 128 (.ints .i64 (eqR D P L (T.getD 1 0) a.toNat)),.row 128 (.ints .i64 (eqR D P L (T.getD 2 0) a.toNat))]
 |[.one (.ptr 0 1 0 0),.one (.int .i64 a),.one (.own 2 1),.one (.sub 1 1 0 n0),.one (.int .i64 n),.one (.int .i64 r)],[.cells [.data (.mat .i64 8 D),.data (.mat .i64 8 P),.data (.ints .i64 L),.data (.ints .i64 Q)],.row 3 (.ints .i64 T),.cells [.own 3 1],.row 128 (.ints .i64 R0)]=>(n0=3∧okRs 3 D P L T∧0≤a∧a≤7∧n=3∧r=1∧R0=eqR D P L (T.getD 0 0) a.toNat)∧k (.exit 4) [.one (.own 2 1)] [.cells [.data (.mat .i64 8 D),.data (.mat .i64 8 P),.data (.ints .i64 L),.data (.ints .i64 Q)],.row 3 (.ints .i64 T),.cells [.own 3 1,.own 4 1,.own 5 1],.row 128 (.ints .i64 (eqR D P L (T.getD 0 0) a.toNat)),.row 128 (.ints .i64 (eqR D P L (T.getD 1 0) a.toNat)),.row 128 (.ints .i64 (eqR D P L (T.getD 2 0) a.toNat))]
 |[.one (.ptr 0 1 0 0),.one (.int .i64 a),.one (.own 2 1),.one (.sub 1 1 0 n0),.one (.int .i64 n),.one (.int .i64 r)],[.cells [.data (.mat .i64 8 D),.data (.mat .i64 8 P),.data (.ints .i64 L),.data (.ints .i64 Q)],.row 3 (.ints .i64 T),.cells [.own 3 1,.own 4 1],.row 128 (.ints .i64 R0),.row 128 (.ints .i64 R1)]=>(n0=3∧okRs 3 D P L T∧0≤a∧a≤7∧n=3∧r=2∧R0=eqR D P L (T.getD 0 0) a.toNat∧R1=eqR D P L (T.getD 1 0) a.toNat)∧k (.exit 4) [.one (.own 2 1)] [.cells [.data (.mat .i64 8 D),.data (.mat .i64 8 P),.data (.ints .i64 L),.data (.ints .i64 Q)],.row 3 (.ints .i64 T),.cells [.own 3 1,.own 4 1,.own 5 1],.row 128 (.ints .i64 (eqR D P L (T.getD 0 0) a.toNat)),.row 128 (.ints .i64 (eqR D P L (T.getD 1 0) a.toNat)),.row 128 (.ints .i64 (eqR D P L (T.getD 2 0) a.toNat))]
 |[.one (.ptr 0 1 0 0),.one (.int .i64 a),.one (.own 2 1),.one (.sub 1 1 0 n0),.one (.int .i64 n),.one (.int .i64 r)],[.cells [.data (.mat .i64 8 D),.data (.mat .i64 8 P),.data (.ints .i64 L),.data (.ints .i64 Q)],.row 3 (.ints .i64 T),.cells [.own 3 1,.own 4 1,.own 5 1],.row 128 (.ints .i64 R0),.row 128 (.ints .i64 R1),.row 128 (.ints .i64 R2)]=>(n0=3∧okRs 3 D P L T∧0≤a∧a≤7∧n=3∧r=3∧R0=eqR D P L (T.getD 0 0) a.toNat∧R1=eqR D P L (T.getD 1 0) a.toNat∧R2=eqR D P L (T.getD 2 0) a.toNat)∧k (.exit 4) [.one (.own 2 1)] [.cells [.data (.mat .i64 8 D),.data (.mat .i64 8 P),.data (.ints .i64 L),.data (.ints .i64 Q)],.row 3 (.ints .i64 T),.cells [.own 3 1,.own 4 1,.own 5 1],.row 128 (.ints .i64 (eqR D P L (T.getD 0 0) a.toNat)),.row 128 (.ints .i64 (eqR D P L (T.getD 1 0) a.toNat)),.row 128 (.ints .i64 (eqR D P L (T.getD 2 0) a.toNat))]
 |_,_=>False
def rdB3:LSpec:=fun vs σ k=>match vs,σ with
 |[.one (.ptr 0 1 0 0),.one (.own 1 1),.one (.own 2 8),.one (.int .i64 a)],[.cells [.data (.mat .i64 8 D),.data (.mat .i64 8 P),.data (.ints .i64 L),.data (.ints .i64 Q)],.row 3 (.ints .i64 T),.row 22 (.mat .i64 8 O)]=>(okRs 3 D P L T∧okOut D O∧0≤a∧a≤8)∧k (.exit 2) [] [.cells [.data (.mat .i64 8 D),.data (.mat .i64 8 P),.data (.ints .i64 L),.data (.ints .i64 Q)],.row 3 (.ints .i64 T),.row 22 (.mat .i64 8 (resF D P L T (8-a).toNat a.toNat O))]
 |_,_=>False
def rdS3:Spec:=fun args σ K=>match args,σ with
 |[.agg [.data (.mat .i64 8 D),.data (.mat .i64 8 P),.data (.ints .i64 L),.data (.ints .i64 Q)]],[]=>(okG D P L Q∧L.length=3)∧rdK D P L Q K
 |_,_=>False
def rdC4:LSpec:=fun vs σ k=>match vs,σ with
 |[.one (.ptr 0 1 0 0),.one (.int .i64 a),.one .nil,.one (.sub 1 1 0 n0),.one (.int .i64 n),.one (.int .i64 r)],[.cells [.data (.mat .i64 8 D),.data (.mat .i64 8 P),.data (.ints .i64 L),.data (.ints .i64 Q)],.row 3 (.ints .i64 T)]=>(n0=4∧okRs 4 D P L T∧0≤a∧a≤7∧n=4∧r=0)∧k (.exit 4) [.one (.own 2 1)] [.cells [.data (.mat .i64 8 D),.data (.mat .i64 8 P),.data (.ints .i64 L),.data (.ints .i64 Q)],.row 3 (.ints .i64 T),.cells [.own 3 1,.own 4 1,.own 5 1,.own 6 1],.row 128 (.ints .i64 (eqR D P L (T.getD 0 0) a.toNat)),.row 128 (.ints .i64 (eqR D P L (T.getD 1 0) a.toNat)),.row 128 (.ints .i64 (eqR D P L (T.getD 2 0) a.toNat)),.row 128 (.ints .i64 (eqR D P L (T.getD 3 0) a.toNat))]
 |[.one (.ptr 0 1 0 0),.one (.int .i64 a),.one (.own 2 1),.one (.sub 1 1 0 n0),.one (.int .i64 n),.one (.int .i64 r)],[.cells [.data (.mat .i64 8 D),.data (.mat .i64 8 P),.data (.ints .i64 L),.data (.ints .i64 Q)],.row 3 (.ints .i64 T),.cells [.own 3 1],.row 128 (.ints .i64 R0)]=>(n0=4∧okRs 4 D P L T∧0≤a∧a≤7∧n=4∧r=1∧R0=eqR D P L (T.getD 0 0) a.toNat)∧k (.exit 4) [.one (.own 2 1)] [.cells [.data (.mat .i64 8 D),.data (.mat .i64 8 P),.data (.ints .i64 L),.data (.ints .i64 Q)],.row 3 (.ints .i64 T),.cells [.own 3 1,.own 4 1,.own 5 1,.own 6 1],.row 128 (.ints .i64 (eqR D P L (T.getD 0 0) a.toNat)),.row 128 (.ints .i64 (eqR D P L (T.getD 1 0) a.toNat)),.row 128 (.ints .i64 (eqR D P L (T.getD 2 0) a.toNat)),.row 128 (.ints .i64 (eqR D P L (T.getD 3 0) a.toNat))]
 |[.one (.ptr 0 1 0 0),.one (.int .i64 a),.one (.own 2 1),.one (.sub 1 1 0 n0),.one (.int .i64 n),.one (.int .i64 r)],[.cells [.data (.mat .i64 8 D),.data (.mat .i64 8 P),.data (.ints .i64 L),.data (.ints .i64 Q)],.row 3 (.ints .i64 T),.cells [.own 3 1,.own 4 1],.row 128 (.ints .i64 R0),.row 128 (.ints .i64 R1)]=>(n0=4∧okRs 4 D P L T∧0≤a∧a≤7∧n=4∧r=2∧R0=eqR D P L (T.getD 0 0) a.toNat∧R1=eqR D P L (T.getD 1 0) a.toNat)∧k (.exit 4) [.one (.own 2 1)] [.cells [.data (.mat .i64 8 D),.data (.mat .i64 8 P),.data (.ints .i64 L),.data (.ints .i64 Q)],.row 3 (.ints .i64 T),.cells [.own 3 1,.own 4 1,.own 5 1,.own 6 1],.row 128 (.ints .i64 (eqR D P L (T.getD 0 0) a.toNat)),.row 128 (.ints .i64 (eqR D P L (T.getD 1 0) a.toNat)),.row 128 (.ints .i64 (eqR D P L (T.getD 2 0) a.toNat)),.row 128 (.ints .i64 (eqR D P L (T.getD 3 0) a.toNat))]
 |[.one (.ptr 0 1 0 0),.one (.int .i64 a),.one (.own 2 1),.one (.sub 1 1 0 n0),.one (.int .i64 n),.one (.int .i64 r)],[.cells [.data (.mat .i64 8 D),.data (.mat .i64 8 P),.data (.ints .i64 L),.data (.ints .i64 Q)],.row 3 (.ints .i64 T),.cells [.own 3 1,.own 4 1,.own 5 1],.row 128 (.ints .i64 R0),.row 128 (.ints .i64 R1),.row 128 (.ints .i64 R2)]=>(n0=4∧okRs 4 D P L T∧0≤a∧a≤7∧n=4∧r=3∧R0=eqR D P L (T.getD 0 0) a.toNat∧R1=eqR D P L (T.getD 1 0) a.toNat∧R2=eqR D P L (T.getD 2 0) a.toNat)∧k (.exit 4) [.one (.own 2 1)] [.cells [.data (.mat .i64 8 D),.data (.mat .i64 8 P),.data (.ints .i64 L),.data (.ints .i64 Q)],.row 3 (.ints .i64 T),.cells [.own 3 1,.own 4 1,.own 5 1,.own 6 1],.row 128 (.ints .i64 (eqR D P L (T.getD 0 0) a.toNat)),.row 128 (.ints .i64 (eqR D P L (T.getD 1 0) a.toNat)),.row 128 (.ints .i64 (eqR D P L (T.getD 2 0) a.toNat)),.row 128 (.ints .i64 (eqR D P L (T.getD 3 0) a.toNat))]
 |[.one (.ptr 0 1 0 0),.one (.int .i64 a),.one (.own 2 1),.one (.sub 1 1 0 n0),.one (.int .i64 n),.one (.int .i64 r)],[.cells [.data (.mat .i64 8 D),.data (.mat .i64 8 P),.data (.ints .i64 L),.data (.ints .i64 Q)],.row 3 (.ints .i64 T),.cells [.own 3 1,.own 4 1,.own 5 1,.own 6 1],.row 128 (.ints .i64 R0),.row 128 (.ints .i64 R1),.row 128 (.ints .i64 R2),.row 128 (.ints .i64 R3)]=>(n0=4∧okRs 4 D P L T∧0≤a∧a≤7∧n=4∧r=4∧R0=eqR D P L (T.getD 0 0) a.toNat∧R1=eqR D P L (T.getD 1 0) a.toNat∧R2=eqR D P L (T.getD 2 0) a.toNat∧R3=eqR D P L (T.getD 3 0) a.toNat)∧k (.exit 4) [.one (.own 2 1)] [.cells [.data (.mat .i64 8 D),.data (.mat .i64 8 P),.data (.ints .i64 L),.data (.ints .i64 Q)],.row 3 (.ints .i64 T),.cells [.own 3 1,.own 4 1,.own 5 1,.own 6 1],.row 128 (.ints .i64 (eqR D P L (T.getD 0 0) a.toNat)),.row 128 (.ints .i64 (eqR D P L (T.getD 1 0) a.toNat)),.row 128 (.ints .i64 (eqR D P L (T.getD 2 0) a.toNat)),.row 128 (.ints .i64 (eqR D P L (T.getD 3 0) a.toNat))]
 |_,_=>False
def rdB4:LSpec:=fun vs σ k=>match vs,σ with
 |[.one (.ptr 0 1 0 0),.one (.own 1 1),.one (.own 2 8),.one (.int .i64 a)],[.cells [.data (.mat .i64 8 D),.data (.mat .i64 8 P),.data (.ints .i64 L),.data (.ints .i64 Q)],.row 3 (.ints .i64 T),.row 22 (.mat .i64 8 O)]=>(okRs 4 D P L T∧okOut D O∧0≤a∧a≤8)∧k (.exit 2) [] [.cells [.data (.mat .i64 8 D),.data (.mat .i64 8 P),.data (.ints .i64 L),.data (.ints .i64 Q)],.row 3 (.ints .i64 T),.row 22 (.mat .i64 8 (resF D P L T (8-a).toNat a.toNat O))]
 |_,_=>False
def rdS4:Spec:=fun args σ K=>match args,σ with
 |[.agg [.data (.mat .i64 8 D),.data (.mat .i64 8 P),.data (.ints .i64 L),.data (.ints .i64 Q)]],[]=>(okG D P L Q∧4≤L.length)∧rdK D P L Q K
 |_,_=>False
noncomputable abbrev srd(S:Spec):List (FuncId × Spec):=[(78,groS),(79,containsS),(80,cloS),(81,factorS),(82,moduloS),(76,parityS),(83,minusS),(84,S),(65,samplesS)]
noncomputable abbrev lrd(l1 l2 l4 l6:LoopBy):List (Nat × LoopBy):=[(6,.frm 1 [1,5,31,32] [5] kpL),(15,l1),(19,l2),(23,.frm 0 [11,12,68,69,70] [12] rdD),(31,l4),(37,.frm 1 [7,127,128,129] [2,3] rdF),(43,l6),(46,.frm 1 [7,21,150,151] [2,3] rdH)]
noncomputable abbrev ErdM(S0:Spec)(l1 l2 l4 l6:LoopBy)(m:Nat):Env:=envOf Tryz.prog (srd S0) (lrd l1 l2 l4 l6) 164 m [] [139]
noncomputable abbrev lrdE:LoopBy:= .frm 3 [1,7,8,106,107,108] [] rdE
noncomputable abbrev lrdG:LoopBy:= .frm 3 [1,7,140,141,142] [2,3] rdG
noncomputable abbrev lrdB1:LoopBy:= .frm 3 [1,5,7,54] [] rdB1
noncomputable abbrev lrdC1:LoopBy:= .frm 2 [1,8,9,61,62,63] [9] rdC1
noncomputable abbrev Erd1(m:Nat):Env:=ErdM slS1 lrdB1 lrdC1 lrdE lrdG m
noncomputable abbrev lrdB2:LoopBy:= .frm 3 [1,5,7,54] [] rdB2
noncomputable abbrev lrdC2:LoopBy:= .frm 2 [1,8,9,61,62,63] [9] rdC2
noncomputable abbrev Erd2(m:Nat):Env:=ErdM slS2 lrdB2 lrdC2 lrdE lrdG m
noncomputable abbrev lrdB3:LoopBy:= .frm 3 [1,5,7,54] [] rdB3
noncomputable abbrev lrdC3:LoopBy:= .frm 2 [1,8,9,61,62,63] [9] rdC3
noncomputable abbrev Erd3(m:Nat):Env:=ErdM slS3 lrdB3 lrdC3 lrdE lrdG m
noncomputable abbrev lrdB4:LoopBy:= .frm 3 [1,5,7,54] [] rdB4
noncomputable abbrev lrdC4:LoopBy:= .frm 2 [1,8,9,61,62,63] [9] rdC4
noncomputable abbrev Erd4(m:Nat):Env:=ErdM slS4 lrdB4 lrdC4 lrdE lrdG m
end Go.Ev
namespace Go.Ev
open Go
variable [Glob]
def spine:Code→List Code
 |.seq a b=>spine a++spine b
 |c=>[c]
def evL(E:Env):List Code→St→(Ex→St→Prop)→Prop
 |[],s,k=>k .normal s
 |c::cs,s,k=>evCode E c s fun e s'=>match e with
  |.normal=>evL E cs s' k
  |e=>k e s'
def andK(B:St→Prop)(k:Ex→St→Prop):Ex→St→Prop:=fun e s=>match e with
 |.normal=>B s
 |e=>k e s
theorem evL_append(E:Env): ∀(xs ys:List Code) (s:St) (k:Ex→St→Prop),evL E (xs++ys) s k=evL E xs s (andK (fun s'=>evL E ys s' k) k)
 |[],_,_,_=>rfl
 |x::xs,ys,s,k=>by
  show evCode E x s _=evCode E x s _
  congr 1
  funext e s'
  cases e with
  |normal=>exact evL_append E xs ys s' k
  |exit j=>rfl
  |ret=>rfl
theorem evL_one(E:Env)(c:Code)(s:St)(k:Ex→St→Prop):evL E [c] s k=evCode E c s k:=by
 show evCode E c s _=evCode E c s _
 congr 1
 funext e s'
 cases e<;>rfl
theorem evCode_spine(E:Env): ∀(c:Code) (s:St) (k:Ex→St→Prop),evCode E c s k=evL E (spine c) s k
 |.seq a b,s,k=>by
  show evCode E (.seq a b) s k=evL E (spine a++spine b) s k
  rw[evL_append,← evCode_spine E a]
  show evCode E a s _=evCode E a s _
  congr 1
  funext e s'
  cases e with
  |normal=>exact evCode_spine E b s' k
  |exit j=>rfl
  |ret=>rfl
 |.skip,s,k=>(evL_one E _ s k).symm
 |.region ..,s,k=>(evL_one E _ s k).symm
 |.cond ..,s,k=>(evL_one E _ s k).symm
 |.block ..,s,k=>(evL_one E _ s k).symm
 |.loop ..,s,k=>(evL_one E _ s k).symm
 |.rangeFunc ..,s,k=>(evL_one E _ s k).symm
 |.exit ..,s,k=>(evL_one E _ s k).symm
 |.ret,s,k=>(evL_one E _ s k).symm
 |.scope ..,s,k=>(evL_one E _ s k).symm
 |.label ..,s,k=>(evL_one E _ s k).symm
 |.goto ..,s,k=>(evL_one E _ s k).symm
 |.refuse ..,s,k=>(evL_one E _ s k).symm
def fnK(E:Env)(fn:Func)(K:AV→List Blk→Prop):Ex→St→Prop:=fun e s=>match e with
 |.exit _=>False
 |_=>evRet E.P fn.results.toList E.m s K
def spF(fn:Func):List Code:=match fn.body with|some c=>spine c|none=>[]
def st0(fn:Func)(args:List AV)(σ:List Blk):St:=⟨args++List.replicate (fn.ntmps-args.length) .any,σ⟩
def evStage(E:Env)(fn:Func)(n m:Nat)(s:St)(K:AV→List Blk→Prop)(B:St→Prop):Prop:=evL E (((spF fn).drop n).take m) s (andK B (fnK E fn K))
def evRest(E:Env)(fn:Func)(n:Nat)(s:St)(K:AV→List Blk→Prop):Prop:=evL E ((spF fn).drop n) s (fnK E fn K)
theorem evFn_rest{E:Env}{fn:Func}{args:List AV}{σ:List Blk}{K:AV→List Blk→Prop}(hm:σ.length=E.m)(hb:fn.body.isSome=true):evFn E fn args σ K=evRest E fn 0 (st0 fn args σ) K:=by
 unfold evFn evRest spF
 rw[if_pos hm]
 cases h:fn.body with
 |none=>rw[h] at hb;cases hb
 |some c=>
  simp only
  rw[evCode_spine]
  rfl
theorem evRest_stage(E:Env)(fn:Func)(n m:Nat)(s:St)(K:AV→List Blk→Prop):evRest E fn n s K=evStage E fn n m s K fun s'=>evRest E fn (n+m) s' K:=by
 unfold evRest evStage
 conv=>lhs;rw[← List.take_append_drop m ((spF fn).drop n),evL_append,List.drop_drop]
end Go.Ev
namespace Go.Ev
open Go Go.Proofs
set_option maxRecDepth 20000
def rdS0a:Spec:=fun args σ K=>match args,σ with
 |[.agg [.data (.mat .i64 8 D),.data (.mat .i64 8 P),.data (.ints .i64 []),.data (.ints .i64 Q)]],[]=>(okG D P [] Q∧(keptJ Q 0 P.length).isEmpty=false)∧rdK D P [] Q K
 |_,_=>False
def rdS0b:Spec:=fun args σ K=>match args,σ with
 |[.agg [.data (.mat .i64 8 D),.data (.mat .i64 8 P),.data (.ints .i64 []),.data (.ints .i64 Q)]],[]=>(okG D P [] Q∧(keptJ Q 0 P.length).isEmpty=true)∧rdK D P [] Q K
 |_,_=>False
def slZ:Spec:=fun args σ K=>match args,σ with
 |[.one (.data (.recs [.sints .i64] []))],[]=>K (.one .nil) []
 |_,_=>False
noncomputable abbrev Eslz:Env:=envOf Tryz.prog [(87,inv2S),(107,timesS),(83,minusS)] [(3,.unroll 1),(8,.unroll 1),(13,.unroll 1),(18,.unroll 1),(25,.unroll 1)] 95 0
noncomputable abbrev Erd0a(m:Nat):Env:=ErdM slZ (.unroll 9) (.unroll 1) (.unroll 1) lrdG m
noncomputable abbrev Erd0b(m:Nat):Env:=ErdM slZ (.unroll 9) (.unroll 1) (.unroll 1) (.unroll 1) m
end Go.Ev
