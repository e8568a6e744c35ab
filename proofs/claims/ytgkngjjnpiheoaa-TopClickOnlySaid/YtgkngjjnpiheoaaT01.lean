/-
  Part of the proof that TopClickOnly holds.
-/
import Derived.Test.YtgkngjjnpiheoaaT00
import Derived.Orders
set_option linter.unusedVariables false
set_option linter.unusedSimpArgs false
set_option linter.unusedSectionVars false
namespace Go.Ev
open Go
variable [Glob]
abbrev Spec:=List AV→List Blk→(AV→List Blk→Prop)→Prop
inductive Ex where
 |normal
 |exit (id:Nat)
 |ret
abbrev LSpec:=List AV→List Blk→(Ex→List AV→List Blk→Prop)→Prop
abbrev SeqSpec:=List AV→List Blk→Option (Bool × List (List AV))
inductive LoopBy where
 |unroll (n:Nat)
 |spec (ins outs:List Nat) (G:LSpec)
 |range (f:FuncId) (Sq:SeqSpec) (ins:List Nat) (G:List (List AV)→LSpec)
 |frm (m:Nat) (ins outs:List Nat) (G:LSpec)
structure Env where
 P:Program
 specs:FuncId→Option Spec
 loops:Nat→Option LoopBy
 n:Nat
 m:Nat
 drs:FuncId→Bool
 cel:TypeId→Bool
def mapIds(f:Nat→Option Nat):SV→SV
 |.own id w=>match f id with
  |some j=> .own j w
  |none=> .any
 |.sub id w i n=>match f id with
  |some j=> .sub j w i n
  |none=> .any
 |.ptr id w i c=>match f id with
  |some j=> .ptr j w i c
  |none=> .any
 |.func g cap=>match mapOpt f cap with
  |some c=> .func g c
  |none=> .any
 |.yld id=>match f id with
  |some j=> .yld j
  |none=> .any
 |.mapv id=>match f id with
  |some j=> .mapv j
  |none=> .any
 |s=>s
def mapIdsT(f:Nat→Option Nat):TV→TV
 |.one s=> .one (mapIds f s)
 |.agg l=> .agg (l.map (mapIds f))
def mapIdsA(f:Nat→Option Nat):AV→AV
 |.any=> .any
 |.one s=> .one (mapIds f s)
 |.agg l=> .agg (l.map (mapIds f))
 |.tup l=> .tup (l.map (mapIdsT f))
def mapIdsB(f:Nat→Option Nat):Blk→Blk
 |.cells l=> .cells (l.map (mapIds f))
 |b=>b
def idsS:SV→List Nat
 |.own id _=>[id]
 |.sub id _ _ _=>[id]
 |.ptr id _ _ _=>[id]
 |.func _ cap=>cap
 |.yld id=>[id]
 |.mapv id=>[id]
 |_=>[]
def idsT:TV→List Nat
 |.one s=>idsS s
 |.agg l=>l.flatMap idsS
def idsA:AV→List Nat
 |.any=>[]
 |.one s=>idsS s
 |.agg l=>l.flatMap idsS
 |.tup l=>l.flatMap idsT
def idsB:Blk→List Nat
 |.cells l=>l.flatMap idsS
 |_=>[]
def reach(σ:List Blk):Nat→List Nat→List Nat→List Nat
 |0,_,acc=>acc
 |_+1,[],acc=>acc
 |f+1,id::todo,acc=>
  if acc.contains id then reach σ f todo acc
  else match σ[id]? with
   |some b=>reach σ f (idsB b++todo) (acc++[id])
   |none=>reach σ f todo acc
def pos(L:List Nat)(id:Nat):Option Nat:=L.idxOf? id
def backId(n:Nat)(L:List Nat)(j:Nat):Option Nat:=
 match L[j]? with
 |some i=>some i
 |none=>some (n+(j-L.length))
def selB(σ:List Blk)(L:List Nat):List Blk:=L.map fun i=>mapIdsB (pos L) (σ.getD i .dead)
def putAt:List Blk→List Nat→List Blk→List Blk
 |σ,i::L,b::bs=>putAt (σ.set i b) L bs
 |σ,_,_=>σ
def merge(σ:List Blk)(L:List Nat)(σ':List Blk):List Blk:= putAt σ L ((σ'.take L.length).map (mapIdsB (backId σ.length L)))++(σ'.drop L.length).map (mapIdsB (backId σ.length L))
def flatT(P:Program):(fuel:Nat)→TypeId→Option (List TypeId)
 |0,_=>none
 |f+1,t=>
  match P.underlying t with
  |some (.struct fs)=>fs.toList.foldr (fun x acc=>match flatT P f x.type,acc with|some l,some k=>some (l++k)|_,_=>none) (some [])
  |some (.array n e)=>(flatT P f e).map fun l=>(List.replicate n l).flatten
  |some _=>some [t]
  |none=>none
def isCells(σ:List Blk)(id:Nat):Bool:=match σ[id]? with|some (.cells _)=>true|_=>false
def viewS(P:Program)(σ:List Blk)(t:TypeId)(s:SV):Option (Bool × SV):=
 match s,P.underlying t with
 |.own id w,some (.slice e)=>match isCells σ id with
  |true=>some (true,.own id w)
  |false=>(viewRow P σ e (.own id w)).map fun(c,r)=>(c,.data r)
 |.nil,some (.slice e)|.sub _ _ _ _,some (.slice e)=>(viewRow P σ e s).map fun(c,r)=>(c,.data r)
 |s,_=>some (true,s)
def viewSs(P:Program)(σ:List Blk):List TypeId→List SV→Option (Bool × List SV)
 |[],[]=>some (true,[])
 |t::ts,s::ss=>match viewS P σ t s,viewSs P σ ts ss with
  |some (c,v),some (d,vs)=>some (c&&d,v::vs)
  |_,_=>none
 |_,_=>none
def viewA(P:Program)(σ:List Blk)(t:TypeId):AV→Option (Bool × AV)
 |.one s=>(viewS P σ t s).map fun(c,v)=>(c,.one v)
 |.agg l=>match flatT P 6 t with
  |some ts=>(viewSs P σ ts l).map fun(c,v)=>(c,.agg v)
  |none=>none
 |a=>some (true,a)
def viewAs(P:Program)(σ:List Blk):List TypeId→List AV→Option (Bool × List AV)
 |[],[]=>some (true,[])
 |t::ts,a::as_=>match viewA P σ t a,viewAs P σ ts as_ with
  |some (c,v),some (d,vs)=>some (c&&d,v::vs)
  |_,_=>none
 |_,_=>none
def idsV(σ:List Blk):SV→List Nat
 |.own id _=>match isCells σ id with
  |true=>[]
  |false=>[id]
 |.sub id _ _ _=>[id]
 |_=>[]
def idsVA(σ:List Blk):AV→List Nat
 |.one s=>idsV σ s
 |.agg l=>l.flatMap (idsV σ)
 |_=>[]
def plainS:SV→Bool
 |.data _=>false
 |.dptr _ _ _=>false
 |_=>true
def plainTV:TV→Bool
 |.one s=>plainS s
 |.agg l=>l.all plainS
def plainA:AV→Bool
 |.any=>true
 |.one s=>plainS s
 |.agg l=>l.all plainS
 |.tup l=>l.all plainTV
def plainB:Blk→Bool
 |.dead=>true
 |.cells l=>l.all plainS
 |.row _ (.recs cks _)=>cks.all fun c=>match c with|.sints _=>false|.smat _ _=>false|_=>true
 |.row _ _=>true
 |.ghost .. => false
 |.map .. => true
 |.iter .. => true
def solidAt(σ:List Blk)(i:Nat):Bool:=match σ[i]? with|some (.cells _)=>true|some (.row _ _)=>true|_=>false
def liveAt(σ:List Blk)(i:Nat):Bool:=match σ[i]? with|some b=>b.live|none=>false
def lent(σ:List Blk)(args:List AV):List Nat:=reach σ 64 (args.flatMap idsA) []
def killAll:List Nat→List Blk→List Blk
 |[],σ=>σ
 |i::V,σ=>killAll V (σ.set i .dead)
def plainT(P:Program)(t:TypeId):Bool:=
 match flatT P 6 t with
 |some ts=>ts.all fun t=>match P.underlying t with
  |some (.slice e)=>(match cksT P 6 e with|some cks=>cks.all (fun c=>match c with|.sints _=>false|.smat _ _=>false|_=>true)|none=>true)
  |_=>true
 |none=>true
def resPlain(P:Program)(f:FuncId):Bool:=
 match P.funcs[f]? with
 |some fn=>fn.resultTypes.all (plainT P)&&fn.params.all (plainT P)
 |none=>true
def resPl(E:Env)(f:FuncId):Bool:=resPlain E.P f && !E.drs f
def tsOf(E:Env)(ts:List TypeId):List TypeId:=ts.map fun t=>match E.P.underlying t with|some (.slice e)=>if E.cel e then 0 else t|_=>t
def evCall(E:Env)(s:St)(f:FuncId)(ts:List TypeId)(args:List AV)(cap:List AV)(k:AV→List Blk→Prop):Prop:=
 match E.specs f,viewAs E.P s.σ ts args with
 |some S,some (c,args')=>
  if(args.flatMap (idsVA s.σ)).all fun i=> !((lent s.σ (args'++cap)).contains i)&&liveAt s.σ i then
   cond c (S ((args'++cap).map (mapIdsA (pos (lent s.σ (args'++cap))))) (selB s.σ (lent s.σ (args'++cap)))
    fun a σ'=>if(args.flatMap (idsVA s.σ)).isEmpty||(plainA a&&σ'.all plainB) then
     k (mapIdsA (backId s.σ.length (lent s.σ (args'++cap))) a) (merge s.σ (lent s.σ (args'++cap)) σ')
     else if(lent s.σ (args'++cap)).isEmpty&&resPl E f then False
     else k (mapIdsA (backId s.σ.length (lent s.σ (args'++cap))) a) (killAll (args.flatMap (idsVA s.σ)) (merge s.σ (lent s.σ (args'++cap)) σ'))) False
  else False
 |_,_=>False
def evYield(E:Env)(s:St)(id:Nat)(ts:List TypeId)(args:List AV)(k:AV→List Blk→Prop):Prop:=
 match s.σ[id]?,viewAs E.P s.σ ts args with
 |some (.ghost P J _ (some L)),some (c,args')=>
  if(args'.flatMap idsA).isEmpty&&(args.flatMap (idsVA s.σ)).all fun i=>solidAt s.σ i then
   cond c (P=E.P∧L=args'::L.tail∧ ∀D',k (.one (.bool true)) ((killAll (args.flatMap (idsVA s.σ)) s.σ).set id (.ghost P J D' (some L.tail)))∧k (.one (.bool false)) ((killAll (args.flatMap (idsVA s.σ)) s.σ).set id (.ghost P J D' none))) False
  else False
 |_,_=>False
def capAV(cap:List Nat):List AV:=cap.map fun i=> .one (.ptr i 1 0 0)
def bytesT(P:Program)(t:TypeId):Option Nat:=(P.info? t).map (·.bytes)
def evAppend(P:Program)(σ:List Blk)(t:TypeId)(x y:SV)(k:AV→List Blk→Prop):Prop:=
 match P.underlying t with
 |some (.slice e)=>
  match bytesT P e,sizeT P e,zeroT P e,viewRow P σ e y with
  |some by_,some (sz+1),some z,some (c,r')=>
   if z.length=sz+1∧r'.width=sz+1 then
    match x with
    |.nil=>cond (c&&decide (r'.count*by_≤140737488355328∧r'.count≤140737488355328)) (cond (decide (r'.count=0)) (k (.one .nil) σ) (k (.one (.own σ.length r'.width)) (σ++[.row e r']))) False
    |.own id wd=>
     match σ[id]? with
     |some (.row t' r)=>
      match r.app r' with
      |some r2=>if t'=e∧wd=r.width∧r.width=r'.width then cond (c&&decide (r2.count*by_≤140737488355328∧r2.count≤140737488355328)) (k (.one (.own σ.length wd)) ((σ.set id .dead)++[.row e r2])) False else False
      |none=>False
     |_=>False
    |.sub id wd i n=>
     match σ[id]? with
     |some (.row t' r)=>
      match (r.part 0 n).app r' with
      |some r2=>if t'=e∧wd=r.width∧r.width=r'.width∧i=0 then cond (c&&(decide (n≤r.count)&&decide (r2.count*by_≤140737488355328∧r2.count≤140737488355328))) (k (.one (.own σ.length wd)) ((σ.set id .dead)++[.row e r2])) False else False
      |none=>False
     |_=>False
    |_=>False
   else False
  |_,_,_,_=>False
 |_=>False
def cellsOf(σ:List Blk):SV→Option (List SV)
 |.own id w=>match σ[id]?,w with
  |some (.cells l),1=>some l
  |_,_=>none
 |_=>none
def evAppendC(P:Program)(σ:List Blk)(t:TypeId)(x:SV)(l':List SV)(k:AV→List Blk→Prop):Prop:=
 match P.underlying t with
 |some (.slice e)=>
  match bytesT P e,sizeT P e,zeroT P e with
  |some by_,some 1,some [_]=>
   match x with
   |.nil=>cond (decide (l'.length*by_≤140737488355328∧l'.length≤140737488355328)) (match l' with
    |[]=>k (.one .nil) σ
    |a::l=>k (.one (.own σ.length 1)) (σ++[.cells (a::l)])) False
   |.own id w=>match cellsOf σ (.own id w) with
    |some l=>cond (decide ((l++l').length*by_≤140737488355328∧(l++l').length≤140737488355328)) (k (.one (.own σ.length 1)) ((σ.set id .dead)++[.cells (l++l')])) False
    |none=>False
   |_=>False
  |_,_,_=>False
 |_=>False
def evAppendZ(P:Program)(σ:List Blk)(t:TypeId)(x:SV)(n:Int)(k:AV→List Blk→Prop):Prop:=
 match P.underlying t with
 |some (.slice e)=>
  match bytesT P e,sizeT P e,zeroT P e with
  |some by_,some 1,some [.int kk 0]=>
   match x with
   |.nil=>cond (decide (0<n)&&decide (n.toNat*by_≤140737488355328∧n.toNat≤140737488355328)) (k (.one (.own σ.length 1)) (σ++[.row e (.ints kk (List.replicate n.toNat 0))])) False
   |.own id 1=>match σ[id]? with
    |some (.row t' (.ints kk' xs))=>if t'=e∧kk'=kk then cond (decide (0<n)&&decide ((xs.length+n.toNat)*by_≤140737488355328∧xs.length+n.toNat≤140737488355328)) (k (.one (.own σ.length 1)) ((σ.set id .dead)++[.row e (.ints kk (xs++List.replicate n.toNat 0))])) False else False
    |_=>False
   |_=>False
  |_,_,_=>False
 |_=>False
def overC(k:IntKind)(ys:List Int):Nat→List SV→Option (List SV)
 |_,[]=>some []
 |j,.int k' a::l=>if k'=k then(overC k ys (j+1) l).map (.int k (bif decide (j<ys.length) then ys.getD j 0 else a) :: ·) else none
 |_,_::_=>none
def Blk.copyTo(b:Blk)(wd i n:Nat)(k:IntKind)(ys:List Int):Option (Bool × Blk):=
 match b with
 |.row t (.ints k' xs)=>if wd=1∧k'=k then some (decide (i+n≤xs.length),.row t (.ints k (xs.take i++ys.take n++xs.drop (i+min ys.length n)))) else none
 |.cells l=>if wd=1∧i+n≤l.length then(overC k ys 0 ((l.drop i).take n)).map fun m=>(true,.cells (l.take i++m++l.drop (i+n))) else none
 |_=>none
def evCopy(P:Program)(σ:List Blk)(t:TypeId)(d x:SV)(k:AV→List Blk→Prop):Prop:=
 match P.underlying t with
 |some (.slice e)=>
  match sizeT P e,viewRow P σ e x with
  |some 1,some (c,.ints kd ys)=>
   match d with
   |.own id wd=>match σ[id]? with
    |some b=>match b.copyTo wd 0 b.count kd ys with
     |some (c2,b')=>cond (c&&c2) (k (.one (.int .i64 ((min ys.length b.count:Nat):Int))) (σ.set id b')) False
     |none=>False
    |none=>False
   |.sub id wd i n=>match σ[id]? with
    |some b=>match b.copyTo wd i n kd ys with
     |some (c2,b')=>cond (c&&c2) (k (.one (.int .i64 ((min ys.length n:Nat):Int))) (σ.set id b')) False
     |none=>False
    |none=>False
   |.nil=>cond c (k (.one (.int .i64 0)) σ) False
   |_=>False
  |_,_=>False
 |_=>False
def zeros(k:IntKind):List SV→Bool
 |[]=>true
 |.int k' n::l=>decide (k'=k)&&(n==0&&zeros k l)
 |_=>false
def mapParts(s:St):List (Nat × Operand)→Nat→Option (List (List SV))
 |[],_=>some []
 |(i,x)::l,j=>if i=j then(match (s.ov x).cells,mapParts s l (j+1) with|some c,some k=>some (c::k)|_,_=>none) else none
def frzEls(P:Program)(σ:List Blk)(ts:List TypeId):List (List SV)→Option (Bool × List (List SV))
 |[]=>some (true,[])
 |l::els=>match viewSs P σ ts l,frzEls P σ ts els with
  |some (c,v),some (d,vs)=>some (c&&d,v::vs)
  |_,_=>none
def keyT(P:Program)(kt:TypeId):Option Nat:=
 match P.underlying kt with
 |some (.int .i64)=>some 0
 |some (.struct fs)=>match fs.toList with
  |[f,g]=>match P.underlying f.type,P.underlying g.type with
   |some (.int .i64),some (.int .i64)=>if f.name ≠ "_" ∧ g.name ≠ "_" ∧ f.offset=0∧g.offset=1∧P.stoodInHeld kt=false then some 2 else none
   |_,_=>none
  |_=>none
 |_=>none
def elemT(P:Program)(et:TypeId):Option Nat:=
 match (P.info? et).bind (·.zero) with
 |some (.int .i64 0)=>some 0
 |some (.agg cs)=>match svcs cs.toList with
  |some z=>if zeros .i64 z && !z.isEmpty then some z.length else none
  |none=>none
 |_=>none
def mapT(P:Program)(t:TypeId):Option (Nat × Nat):=
 match P.underlying t with
 |some (.map kt et)=>match keyT P kt,elemT P et with
  |some a,some b=>some (a,b)
  |_,_=>none
 |_=>none
def mintsOf(w:Nat):AV→Option (List Int)
 |.one (.int .i64 n)=>if w=0 then some [n] else none
 |.agg l=>match asInts .i64 l with
  |some xs=>if xs.length=w∧0<w then some xs else none
  |none=>none
 |_=>none
def avI:Nat→List Int→AV
 |0,xs=> .one (.int .i64 (xs.getD 0 0))
 |w+1,xs=> .agg ((List.range (w+1)).map fun i=> .int .i64 (xs.getD i 0))
def tvI:Nat→List Int→TV
 |0,xs=> .one (.int .i64 (xs.getD 0 0))
 |w+1,xs=> .agg ((List.range (w+1)).map fun i=> .int .i64 (xs.getD i 0))
def aget:List (List Int × List Int)→List Int→Option (List Int)
 |[],_=>none
 |x::l,k=>bif k==x.1 then some x.2 else aget l k
def agetD(l:List (List Int × List Int))(k:List Int):List Int:=(aget l k).getD []
def ahas(l:List (List Int × List Int))(k:List Int):Bool:=(aget l k).isSome
def aset:List (List Int × List Int)→List Int→List Int→List (List Int × List Int)
 |[],k,v=>[(k,v)]
 |x::l,k,v=>bif k==x.1 then(k,v)::l else x::aset l k v
def splN(a:Int)(k:Nat→Prop):Nat→Nat→Prop
 |0,_=>False
 |n+1,j=>cond (a==(j:Int)) (k j) (splN a k n (j+1))
def nilTest(sv:SV)(k:Bool→Prop):Prop:=
 match sv with
 |.nil=>k true
 |.data r=>cond (decide (r.count=0)) (k true∧k false) (k false)
 |.own _ _=>k false
 |_=>False
def methF(P:Program)(t:TypeId)(name:String):Option FuncId:=
 match P.info? t,P.underlying t with
 |some i,some (.struct _)=>match i.methods.toList.find? (·.name==name) with
  |some m=>match m.path.toList,m.func with
   |[],some (f,false)=>some f
   |_,_=>none
  |none=>none
 |_,_=>none
def evN(E:Env)(o:Oper)(s:St)(k:AV→List Blk→Prop):Prop:=
 match o.op with
 |.binOp op xt x (.const (.slice none 0 0)) _=>match E.P.underlying xt,s.ov x with
  |some (.slice _),.one sv=>(match op with
   |.eql=>nilTest sv fun b=>k (.one (.bool b)) s.σ
   |.neq=>nilTest sv fun b=>k (.one (.bool (!b))) s.σ
   |_=>False)
  |_,_=>False
 |.binOp op xt x (.const .nilIface) _=>match E.P.underlying xt,s.ov x with
  |some (.interface _),.one (.ifc b)=>(match op with
   |.eql=>k (.one (.bool b)) s.σ
   |.neq=>k (.one (.bool (!b))) s.σ
   |_=>False)
  |_,_=>False
 |.alloc t=>match zeroT E.P t with
  |some z=>k (.one (.ptr s.σ.length 1 0 0)) (s.σ++[newBlk E.P t z])
  |none=>False
 |.box t x=>match (s.ov x).cells with
  |some z=>k (.one (.ptr s.σ.length 1 0 0)) (s.σ++[newBlk E.P t z])
  |none=>False
 |.buildSlice t len parts=>match E.P.underlying t with
  |some (.slice e)=>match mapParts s parts.toList 0,sizeT E.P e,zeroT E.P e with
   |some els,some sz,some z=>if els.length=len∧els.all (·.length==sz)∧z.length=sz∧len*sz≤16777216∧len≤16777216 then
     match rowOf E.P e els (E.cel e) with
     |some b=>if b.width=sz then k (.one (.own s.σ.length sz)) (s.σ++[b]) else False
     |none=>(match flatT E.P 6 e with
      |some ts=>(match frzEls E.P s.σ ts els with
       |some (c,els')=>(match rowOf E.P e els' with
        |some b=>if b.width=sz∧(els'.all (·.length==sz)&&(els.flatten.flatMap (idsV s.σ)).all fun i=>solidAt s.σ i)=true then cond c (k (.one (.own s.σ.length sz)) (killAll (els.flatten.flatMap (idsV s.σ)) s.σ++[b])) False else False
        |none=>False)
       |none=>False)
      |none=>False)
    else False
   |_,_,_=>False
  |_=>False
 |.store t a x=>match s.ov a,(s.ov x).cells,sizeT E.P t with
  |.one p,some l,some sz=>if l.length=sz then
    match storeSVs E.P s.σ p l with
    |some (c,σ')=>cond c (k .any σ') False
    |none=>False
   else False
  |_,_,_=>False
 |.makeSlice t n c=>match E.P.underlying t,s.ov n,s.ov c with
  |some (.slice e),.one (.int _ a),.one (.int _ b)=>match bytesT E.P e,zeroT E.P e,sizeT E.P e with
   |some by_,some z,some sz=>cond (decide (0≤a)&&(decide (a≤b)&&decide (b*(by_:Int)≤140737488355328∧b≤140737488355328))) (match rkind E.P e with
    |.ints k'=>if zeros k' z&&(z.length==1&&sz==1) then k (.one (.own s.σ.length 1)) (s.σ++[.row e (.ints k' (List.replicate a.toNat 0))]) else False
    |.mat k' w=>if zeros k' z&&(z.length==w&&(sz==w&&decide (0<w))) then k (.one (.own s.σ.length w)) (s.σ++[.row e (.mat k' w (List.replicate a.toNat (List.replicate w 0)))]) else False
    |_=>match E.cel e,z,sz with
     |true,[z0],1=>splN a (fun n=>k (.one (.own s.σ.length 1)) (s.σ++[.cells (List.replicate n z0)])) 9 0
     |_,_,_=>False) False
   |_,_,_=>False
  |_,_,_=>False
 |.makeMap t none=>match mapT E.P t with
  |some (kw,vw)=>k (.one (.mapv s.σ.length)) (s.σ++[.map kw vw []])
  |none=>False
 |.mapUpdate t m ky x|.insert t m ky x=>match mapT E.P t,s.ov m with
  |some (kw,vw),.one (.mapv id)=>match s.σ[id]?,mintsOf kw (s.ov ky),mintsOf vw (s.ov x) with
   |some (.map kw' vw' l),some a,some b=>if kw'=kw∧vw'=vw then k .any (s.σ.set id (.map kw vw (aset l a b))) else False
   |_,_,_=>False
  |_,_=>False
 |.lookup t m ky ok=>match mapT E.P t,s.ov m with
  |some (kw,vw),.one (.mapv id)=>match s.σ[id]?,mintsOf kw (s.ov ky) with
   |some (.map kw' vw' l),some a=>if kw'=kw∧vw'=vw then k (if ok then .tup [tvI vw (agetD l a),.one (.bool (ahas l a))] else avI vw (agetD l a)) s.σ else False
   |_,_=>False
  |_,_=>False
 |.range t x=>match mapT E.P t,s.ov x with
  |some (kw,vw),.one (.mapv id)=>match s.σ[id]? with
   |some (.map kw' vw' l)=>if kw'=kw∧vw'=vw then ∀m,k (.one (.ptr s.σ.length 1 0 0)) (s.σ.set id .dead++[.iter m kw vw l none]) else False
   |_=>False
  |_,_=>False
 |.next it false=>match s.ov it with
  |.one (.ptr id 1 0 0)=>match s.σ[id]? with
   |some (.iter m kw vw rem _)=>(rem=[]→k (.tup [.one (.bool false)]) s.σ)∧ ∀(i:Nat) (x:List Int × List Int),rem[i]? = some x→k (.tup [.one (.bool true),tvI kw x.1,tvI vw x.2]) (s.σ.set id (.iter m kw vw (rem.eraseIdx i) (some x)))
   |_=>False
  |_=>False
 |.entry it=>match s.ov it with
  |.one (.ptr id 1 0 0)=>match s.σ[id]? with
   |some (.iter _ kw vw _ (some x))=>k (.tup [tvI kw x.1,tvI vw x.2]) s.σ
   |_=>False
  |_=>False
 |.convert src dst x=>match E.P.underlying src,E.P.underlying dst,s.ov x with
  |some .string,some (.slice e),.one (.str l)=>match E.P.underlying e with
   |some (.int .u8)=>cond (decide (l.length≤140737488355328)) (k (.one (.data (.ints .u8 (l.map fun b=>(b.toNat:Int))))) s.σ) False
   |_=>False
  |some (.slice e),some .string,.one sv=>match E.P.underlying e,viewRow E.P s.σ e sv with
   |some (.int .u8),some (c,.ints .u8 xs)=>cond c (k (.one (.str (xs.map fun n=>UInt8.ofNat n.toNat))) s.σ) False
   |_,_=>False
  |_,_,_=>False
 |.call { callee:= .value f,args,argTypes }=>match s.ov f with
  |.one (.func g cap)=>evCall E s g (tsOf E argTypes.toList) (args.toList.map s.ov) (capAV cap) k
  |.one (.yld id)=>evYield E s id argTypes.toList (args.toList.map s.ov) k
  |_=>False
 |.makeInterface t x=>match E.P.underlying t,s.ov x with
  |some (.struct _),.agg l=>match asInts .i64 l with
   |some ns=>k (.one (.ifv t ns)) s.σ
   |none=>False
  |_,_=>False
 |.call { callee:= .invoke r name,args,argTypes }=>match s.ov r with
  |.one (.ifv t ns)=>match methF E.P t name with
   |some g=>evCall E s g (t::tsOf E argTypes.toList) (.agg (ns.map (SV.int .i64))::args.toList.map s.ov) [] k
   |none=>False
  |_=>False
 |.call { callee:= .builtin .copy,args,argTypes }=>match args.toList.map s.ov,argTypes.toList with
  |[.one x,.one y],[t,_]=>evCopy E.P s.σ t x y k
  |_,_=>False
 |.call { callee:= .builtin .append,args,argTypes }=>match args.toList.map s.ov,argTypes.toList with
  |[.one x,.one (.int _ n)],[t,u]=>match E.P.underlying u with
   |some (.int _)=>evAppendZ E.P s.σ t x n k
   |_=>False
  |[.one x,.one y],[t,u]=>match cellsOf s.σ y with
   |some l'=>if t=u then evAppendC E.P s.σ t x l' k else False
   |none=>if t=u then evAppend E.P s.σ t x y k else(match E.P.underlying t,E.P.underlying u with
    |some (.slice e),some (.slice e')=>if e=e' then evAppend E.P s.σ t x y k else False
    |_,_=>False)
  |_,_=>False
 |_=>False
def spl(f:Int→AV)(i:Int)(k:AV→Prop):Nat→Int→Prop
 |0,_=>False
 |1,j=>k (f j)
 |n+2,j=>cond (i==j) (k (f j)) (spl f i k (n+1) (j+1))
def arrIx(P:Program)(s:St)(o:Op):Option (Int × Nat × (Int→AV)):=
 match o with
 |.indexAddr t x ix=>match P.underlying t,s.ov x,s.ov ix with
  |some (.array n _),.one (.ptr id wd i c),.one (.int kd j)=>match s.σ[id]? with
   |some (.cells _)=>if n≤8 then some (j,n,fun j'=>match evIndexAddr P s.σ t (.one (.ptr id wd i c)) (.one (.int kd j')) with
    |some (_,v)=>v
    |none=> .any) else none
   |_=>none
  |some (.slice _),.one (.own id w),.one (.int kd j)=>match s.σ[id]? with
   |some (.cells l)=>if l.length≤8 then some (j,l.length,fun j'=>match evIndexAddr P s.σ t (.one (.own id w)) (.one (.int kd j')) with
    |some (_,v)=>v
    |none=> .any) else none
   |_=>none
  |some (.array n _),.one (.glb g c),.one (.int kd j)=>if n≤8 then some (j,n,fun j'=>match evIndexAddr P s.σ t (.one (.glb g c)) (.one (.int kd j')) with
    |some (_,v)=>v
    |none=> .any) else none
  |_,_,_=>none
 |_=>none
def evDo(E:Env)(o:Oper)(s:St)(k:St→Prop):Prop:=
 if movable o.op then
  match evM E.P s o.op with
  |some (c,v)=>match arrIx E.P s o.op with
   |some (j,n,f)=>cond c (spl f j (fun v=>k ⟨setT s.t o.dst v,s.σ⟩) n 0) False
   |none=>cond c (k ⟨setT s.t o.dst v,s.σ⟩) False
  |none=>False
 else match evM E.P s o.op with
  |some (c,v)=>cond c (k ⟨setT s.t o.dst v,s.σ⟩) False
  |none=>evN E o s fun v σ'=>k ⟨setT s.t o.dst v,σ'⟩
def setB(s:St)(d:Tmp)(b:Bool):St:=⟨s.t.set d (.one (.bool b)),s.σ⟩
def skipV:AV:= .tup []
def evOper(E:Env)(ops:Array Oper)(o:Oper)(s:St)(k:St→Prop):Prop:=
 match o.guard with
 |none=>evDo E o s k
 |some (j,want)=>
  match (ops[j]?).bind (·.dst) with
  |some d=>
   match s.t.getD d .any with
   |.one (.bool b)=>match want with
    |true=>cond b (evDo E o (setB s d true) k) (k ⟨setT (setB s d false).t o.dst skipV,s.σ⟩)
    |false=>cond b (k ⟨setT (setB s d true).t o.dst skipV,s.σ⟩) (evDo E o (setB s d false) k)
   |.tup []=>k ⟨setT s.t o.dst skipV,s.σ⟩
   |_=>False
  |none=>False
def evOps(E:Env)(ops:Array Oper):List Oper→St→(St→Prop)→Prop
 |[],s,k=>k s
 |o::rest,s,k=>evOper E ops o s fun s'=>evOps E ops rest s' k
def calm(E:Env)(s:St)(o:Oper):Bool:=
 match o.op with
 |.alloc _|.box _ _|.makeSlice .. | .convert .. | .load .. => true
 |.buildSlice t _ parts=>match E.P.underlying t with
  |some (.slice e)=>(match mapParts s parts.toList 0 with
   |some els=>(rowOf E.P e els (E.cel e)).isSome
   |none=>false)
  |_=>false
 |.call { callee:= .value f,args,argTypes }=>match s.ov f with
  |.one (.func g cap)=>match viewAs E.P s.σ (tsOf E argTypes.toList) (args.toList.map s.ov) with
   |some (_,args')=>(lent s.σ (args'++capAV cap)).isEmpty&&(((args.toList.map s.ov).flatMap (idsVA s.σ)).isEmpty||resPl E g)
   |none=>false
  |_=>false
 |_=>false
def preds(o:Oper):List Nat:=(o.after.toList.filter (Region.binds .any)).map (·.on)
def maskOf(o:Oper)(acc:List Nat):Nat:=(preds o).foldl (fun s p=>s ||| (1 <<< p) ||| acc.getD p 0) 0
def befs:List Oper→List Nat→List Nat
 |[],acc=>acc
 |o::l,acc=>befs l (acc++[maskOf o acc])
def freeOp(ops:Array Oper)(bef:List Nat)(i:Nat):Bool:=
 match ops[i]? with
 |some o=>match o.dst with
  |none=>true
  |some d=>(List.range ops.size).all fun p=>p==i||(match ops[p]? with
   |some q=> !(q.looksAt ops).contains d && !(q.dst==some d)
   |none=>true)||(bef.getD p 0).testBit i||(bef.getD i 0).testBit p
 |none=>false
def backward(ops:Array Oper):Bool:=(List.range ops.size).all fun j=>match ops[j]? with
 |some o=>(preds o).all (· < j)
 |none=>true
def conj:List Nat→(Nat→Prop)→Prop
 |[],_=>True
 |[j],p=>p j
 |j::l,p=>p j∧conj l p
def isLoad:Op→Bool|.load .. => true|_=>false
def sharesPtr(ops:Array Oper):Op→Bool
 |.call { callee:= .value (.func _),args,.. }=>args.toList.any fun a=>match a with
  |.tmp t=>ops.toList.any fun o=>(o.dst==some t)&&(match o.op with
   |.move (.tmp x)=>ops.toList.any fun q=>(match q.op with|.move (.tmp y)=>y==x&&(match q.dst with|some d=>ops.toList.any fun r=>(match r.op with|.nilCheck (.tmp z)=>z==d|_=>false)|none=>false)|_=>false)
   |_=>false)
  |_=>false
 |_=>false
def isApp:Op→Bool|.call { callee:= .builtin .append,.. }=>true|_=>false
def lateLoad(ops:Array Oper)(bef:List Nat)(i:Nat):Bool:=match ops[i]? with
 |some o=>isLoad o.op&&(List.range ops.size).any fun j=>(match ops[j]? with|some q=>isApp q.op||sharesPtr ops q.op|none=>false) && !((bef.getD j 0).testBit i||(bef.getD i 0).testBit j)
 |none=>false
def early(ops:Array Oper)(bef:List Nat)(i:Nat):Bool:=(match ops[i]? with|some o=>movable o.op|none=>false)&&(freeOp ops bef i && !lateLoad ops bef i)
def coversAll(ops:Array Oper)(bef:List Nat)(L:Array Bool)(j:Nat):Bool:=(List.range ops.size).all fun i=> !(L.getD i false)||((bef.getD j 0).testBit i || !early ops bef i)
def pureOp:Op→Bool
 |.move _|.assign _|.pick .. | .nilCheck _|.binOp .. | .unOp .. | .makeFunc .. | .fieldAddr .. | .field .. | .index .. | .extract .. | .build .. => true
 |.call { callee:= .builtin .max,.. }|.call { callee:= .builtin .min,.. }=>true
 |_=>false
def storeId(s:St):Op→Option Nat
 |.store _ a _=>match s.ov a with|.one (.ptr id _ _ _)=>some id|_=>none
 |_=>none
def offPtr(id:Nat):AV→Bool
 |.one (.ptr id' _ _ _)=>id' != id
 |.one (.dptr _ _ _)=>true
 |_=>false
def isPtr:AV→Bool
 |.one (.ptr _ _ _ _)=>true
 |_=>false
def loadOff(ops:Array Oper)(bef:List Nat)(s:St)(i id:Nat):Op→Bool
 |.load _ (.tmp t)=>((List.range ops.size).all fun q=>(match ops[q]? with|some o=> !(o.dst==some t)|none=>true)||(bef.getD i 0).testBit q)&&offPtr id (s.t.getD t .any)
 |.indexAddr _ (.tmp t) _=>((List.range ops.size).all fun q=>(match ops[q]? with|some o=> !(o.dst==some t)|none=>true)||(bef.getD i 0).testBit q)&&isPtr (s.t.getD t .any)
 |_=>false
def callIds(E:Env)(s:St):Op→Option (List Nat)
 |.call { callee:= .value f,args,argTypes }=>match s.ov f with
  |.one (.func _ cap)=>match viewAs E.P s.σ (tsOf E argTypes.toList) (args.toList.map s.ov) with
   |some (_,args')=>if((args.toList.map s.ov).flatMap (idsVA s.σ)).isEmpty then some (lent s.σ (args'++capAV cap)) else none
   |none=>none
  |_=>none
 |_=>none
def offPtrs(σ:List Blk)(L:List Nat):AV→Bool
 |.one (.ptr id _ _ _)=> !L.contains id&&decide (id<σ.length)
 |.one (.dptr _ _ _)=>true
 |_=>false
def loadOffs(ops:Array Oper)(bef:List Nat)(s:St)(i:Nat)(L:List Nat):Op→Bool
 |.load _ (.tmp t)=>((List.range ops.size).all fun q=>(match ops[q]? with|some o=> !(o.dst==some t)|none=>true)||(bef.getD i 0).testBit q)&&offPtrs s.σ L (s.t.getD t .any)
 |_=>false
def staysBy(E:Env)(ops:Array Oper)(bef:List Nat)(s:St)(i j:Nat)(o:Op):Bool:=pureOp o||(match ops[j]? with
 |some oj=>(match storeId s oj.op with|some id=>loadOff ops bef s i id o|none=>(match callIds E s oj.op with|some L=>loadOffs ops bef s i L o|none=>false))
 |none=>false)
def pureOthers(E:Env)(ops:Array Oper)(bef:List Nat)(L:Array Bool)(j:Nat)(s:St):Bool:=(List.range ops.size).all fun i=> !(L.getD i false)||(((bef.getD j 0).testBit i || !early ops bef i)||(match ops[i]? with|some o=>staysBy E ops bef s i j o.op|none=>false))
def evDraw(E:Env)(ops:Array Oper)(bef:List Nat):Nat→Array Bool→St→(St→Prop)→Prop
 |0,L,s,k=>match Region.ready .any ops L with
  |[]=>k s
  |_=>False
 |n+1,L,s,k=>
  match (Region.ready .any ops L).find? (early ops bef) with
  |some i=>match ops[i]? with
   |some o=>evOper E ops o s fun s'=>evDraw E ops bef n (L.setIfInBounds i true) s' k
   |none=>False
  |none=>match Region.ready .any ops L with
   |[]=>k s
   |R=>conj R fun j=>match ops[j]? with
    |some o=>if(freeOp ops bef j&&(calm E s o||pureOthers E ops bef L j s))||coversAll ops bef L j then
      evOper E ops o s fun s'=>evDraw E ops bef n (L.setIfInBounds j true) s' k
     else False
    |none=>False
def keyOf:Code→Nat
 |.region id _ _=>id
 |.seq a _=>keyOf a
 |.cond _ a _=>keyOf a
 |.block _ b=>keyOf b
 |.loop b=>keyOf b
 |.rangeFunc _ _ .skip b=>1000000+keyOf b
 |.rangeFunc _ _ a _=>1000000+keyOf a
 |_=>0
def rounds(f:St→(Ex→St→Prop)→Prop)(k:Ex→St→Prop):Nat→St→Prop
 |0,_=>False
 |n+1,s=>f s fun e s'=>match e with
  |.normal=>rounds f k n s'
  |e=>k e s'
def stay(m:Nat)(σ:List Blk)(ids:List Nat):List Nat:=reach σ 64 ((σ.take m).flatMap idsB++ids) (List.range m)
def liveV(live:List Nat)(s:St):List AV:=live.map fun i=>s.t.getD i .any
def headL(m:Nat)(live:List Nat)(s:St):List Nat:=stay m s.σ ((liveV live s).flatMap idsA)
def headV(m:Nat)(live:List Nat)(s:St):List AV:=(liveV live s).map (mapIdsA (pos (headL m live s)))
def headB(m:Nat)(live:List Nat)(s:St):List Blk:=selB s.σ (headL m live s)
def spread(n:Nat)(live:List Nat)(vs:List AV)(σ:List Blk):St:=
 ⟨(List.range n).map fun i=>match pos live i with
  |some j=>vs.getD j .any
  |none=> .any,σ⟩
def dsts:Code→List Tmp
 |.region _ ops _=>ops.toList.filterMap (·.dst)
 |.seq a b|.cond _ a b=>dsts a++dsts b
 |.block _ b|.loop b=>dsts b
 |_=>[]
def noRange:Code→Bool
 |.seq a b|.cond _ a b=>noRange a&&noRange b
 |.block _ b|.loop b=>noRange b
 |.rangeFunc .. => false
 |_=>true
def posS(L:List Nat)(i:Nat):Option Nat:=(pos L i).map (· + 1)
def selS(σ:List Blk)(L:List Nat):List Blk:=L.map fun i=>mapIdsB (posS L) (σ.getD i .dead)
def putPs:List Tmp→List AV→List AV→List AV
 |p::ps,x::xs,t=>putPs ps xs (t.set p x)
 |_,_,t=>t
def offPs(ps:List Tmp)(assign body:Code)(ins:List Nat):Bool:=(ps++(dsts assign++dsts body)).all fun d=> !ins.contains d
def frmL(ins:List Nat)(s:St):List Nat:=reach s.σ 64 ((liveV ins s).flatMap idsA) []
def frmV(ins:List Nat)(s:St):List AV:=(liveV ins s).map (mapIdsA (pos (frmL ins s)))
def frmS(n:Nat)(ds outs:List Nat)(L:List Nat)(s:St)(vs:List AV)(σ:List Blk):St:=
 ⟨(List.range n).map fun i=>match pos outs i with
  |some j=>mapIdsA (backId s.σ.length L) (vs.getD j .any)
  |none=>match ds.contains i with
   |true=> .any
   |false=>s.t.getD i .any,merge s.σ L σ⟩
def evCode(E:Env):Code→St→(Ex→St→Prop)→Prop
 |.skip,s,k=>k .normal s
 |.region _ ops draw,s,k=>
  if draw then(if E.P.follows .mixedOrders&&backward ops then evDraw E ops (befs ops.toList []) ops.size (Array.replicate ops.size false) s (k .normal) else False) else evOps E ops ops.toList s (k .normal)
 |.seq a b,s,k=>evCode E a s fun e s'=>match e with
  |.normal=>evCode E b s' k
  |e=>k e s'
 |.cond c a b,s,k=>match s.ov c,c with
  |.one (.bool x),.tmp d=>cond x (evCode E a (setB s d true) k) (evCode E b (setB s d false) k)
  |.one (.bool x),_=>cond x (evCode E a s k) (evCode E b s k)
  |_,_=>False
 |.block id b,s,k=>evCode E b s fun e s'=>match e with
  |.exit i=>if i=id then k .normal s' else k (.exit i) s'
  |e=>k e s'
 |.loop b,s,k=>match E.loops (keyOf b) with
  |some (.unroll n)=>rounds (evCode E b) k n s
  |some (.spec ins outs G)=>if s.t.length=E.n then G (headV E.m ins s) (headB E.m ins s) fun e vs σ=>k e (spread E.n outs vs σ) else False
  |some (.frm m ins outs G)=>if s.t.length=E.n∧(frmL ins s).length=m then G (frmV ins s) (selB s.σ (frmL ins s)) fun e vs σ=>k e (frmS E.n (dsts b) outs (frmL ins s) s vs σ) else False
  |_=>False
 |.rangeFunc g ps assign body,s,k=>match s.ov g with
  |.one (.func f cap)=>match E.loops (keyOf (.rangeFunc g ps assign body)) with
   |some (.range f' Sq ins G)=>
    if f'=f∧s.t.length=E.n∧((reach s.σ 64 cap []).all (solidAt s.σ)&&(offPs ps.toList assign body ins&&(noRange assign&&noRange body)))=true then
     match Sq ((capAV cap).map (mapIdsA (posS (reach s.σ 64 cap [])))) (selS s.σ (reach s.σ 64 cap [])) with
     |some (c,xs)=>cond c (G xs (headV E.m ins ⟨s.t,killAll (reach s.σ 64 cap []) s.σ⟩) (headB E.m ins ⟨s.t,killAll (reach s.σ 64 cap []) s.σ⟩) fun e vs σ=>k e (spread E.n ins vs σ)) False
     |none=>False
    else False
   |_=>False
  |_=>False
 |.exit id,s,k=>k (.exit id) s
 |.ret,s,k=>k .ret s
 |_,_,_=>False
def seqSpec(P:Program)(Sq:SeqSpec):Spec:=fun args σ K=>match args,σ with
 |.one (.yld 0)::caps,.ghost P' J _ (some L)::lent=>match Sq caps lent with
  |some (c,xs)=>cond c (P'=P∧L=xs∧ ∀D' lent',K (.tup []) (.ghost P J D' (some [])::lent')∧K (.tup []) (.ghost P J D' none::lent')) False
  |none=>False
 |_,_=>False
def resultOf(P:Program)(s:St):ResultVar→Option (Bool × TV)
 |.tmp d=>match s.t.getD d .any with
  |.one v=>some (true,.one v)
  |.agg l=>some (true,.agg l)
  |_=>none
 |.cell a t=>match evM P s (.load t (.tmp a)) with
  |some (c,.one v)=>some (c,.one v)
  |some (c,.agg l)=>some (c,.agg l)
  |_=>none
def resultsOf(P:Program)(s:St):List ResultVar→Option (Bool × List TV)
 |[]=>some (true,[])
 |r::rs=>match resultOf P s r,resultsOf P s rs with
  |some (c,v),some (d,vs)=>some (c&&d,v::vs)
  |_,_=>none
def packRes:List TV→AV
 |[v]=>v.av
 |l=> .tup l
def evRet(P:Program)(rs:List ResultVar)(m:Nat)(s:St)(K:AV→List Blk→Prop):Prop:=
 match resultsOf P s rs with
 |some (c,l)=>cond c (K (mapIdsA (pos (stay m s.σ (idsA (packRes l)))) (packRes l)) (selB s.σ (stay m s.σ (idsA (packRes l))))) False
 |none=>False
def evFn(E:Env)(fn:Func)(args:List AV)(σ:List Blk)(K:AV→List Blk→Prop):Prop:=
 if σ.length=E.m then match fn.body with
 |some c=>evCode E c ⟨args++List.replicate (fn.ntmps-args.length) .any,σ⟩ fun e s=>match e with
  |.exit _=>False
  |_=>evRet E.P fn.results.toList E.m s K
 |none=>False
 else False
def evBody(E:Env)(b:Code)(ins outs:List Nat)(vs:List AV)(σ:List Blk)(K:Ex→List AV→List Blk→Prop):Prop:=
 evCode E b (spread E.n ins vs σ) fun e s=>if s.t.length=E.n then(match e with
  |.normal=>K .normal (headV E.m ins s) (headB E.m ins s)
  |e=>K e (headV E.m outs s) (headB E.m outs s)) else False
def evRound(E:Env)(ps:List Tmp)(assign body:Code)(ins:List Nat)(vs:List AV)(σ:List Blk)(x:List AV)(K:Ex→List AV→List Blk→Prop):Prop:=
 if x.length=ps.length then
  evCode E assign ⟨putPs ps x (spread E.n ins vs σ).t,σ⟩ fun e s2=>match e with
   |.normal=>evCode E body s2 fun e s3=>if s3.t.length=E.n then K e (headV E.m ins s3) (headB E.m ins s3) else False
   |_=>False
 else False
def loopsOf:Code→List Code
 |.seq a b|.cond _ a b=>loopsOf a++loopsOf b
 |.block _ b=>loopsOf b
 |.loop b=>b::loopsOf b
 |.rangeFunc g ps a b=> .rangeFunc g ps a b::(loopsOf a++loopsOf b)
 |_=>[]
end Go.Ev
namespace Go.Ev
open Go Go.RowKit
variable [Glob]
structure HeapOk(F:Nat→Prop)(ρ:List (Nat × Nat))(σ:List Blk)(w:World):Prop where
 len:ρ.length=σ.length
 live: ∀(id:Nat) (b:Blk) (g n:Nat),σ[id]? = some b→ρ[id]? = some (g,n)→b.live=true→DenBlk w (Mut F ρ σ) ρ g b∧b.count=n∧g<w.heap.size
 lt: ∀(id:Nat) (b:Blk) (g n k:Nat),σ[id]? = some b→ρ[id]? = some (g,n)→b.live=true→b.owns g k→k<w.heap.size
 inj': ∀(i j:Nat) (b b':Blk) (g g' n n' k:Nat),σ[i]? = some b→σ[j]? = some b'→b.live=true→b'.live=true→ρ[i]? = some (g,n)→ρ[j]? = some (g',n')→b.owns g k→b'.owns g' k→i=j
 glob:GlobOK (Mut F ρ σ) w
theorem HeapOk.inj{F:Nat→Prop}{ρ:List (Nat × Nat)}{σ:List Blk}{w:World}(H:HeapOk F ρ σ w)(i j:Nat)(b b':Blk)(g n n':Nat)(h1:σ[i]? = some b)(h2:σ[j]? = some b')(h3:b.live=true)(h4:b'.live=true)(h5:ρ[i]? = some (g,n))(h6:ρ[j]? = some (g,n')):i=j:= H.inj' i j b b' g g n n' g h1 h2 h3 h4 h5 h6 (b.owns_self g) (b'.owns_self g)
theorem LMut.solid{ρ:List (Nat × Nat)}{σ:List Blk}{id g n:Nat}{b:Blk}(h1:σ[id]? = some b)(h2:b.live=true)(h3:ρ[id]? = some (g,n)):LMut ρ σ g:=⟨id,b,n,g,h1,h2,h3,b.owns_self g⟩
theorem exists_list{α:Type}{p:Nat→α→Prop}: ∀(n:Nat),(∀o,o<n→ ∃u,p o u)→ ∃vs:List α,vs.length=n∧ ∀o u,vs[o]? = some u→p o u
 |0,_=>⟨[],rfl,fun o u h=>by simp at h⟩
 |n+1,H=>by
  obtain⟨vs,hl,hv⟩:=exists_list n fun o ho=>H o (by omega)
  obtain⟨u,hu⟩:=H n (by omega)
  refine⟨vs++[u],by simp[hl],fun o v hv'=> ?_⟩
  rcases Nat.lt_or_ge o vs.length with h|h
  ·rw[List.getElem?_append_left h] at hv';exact hv o v hv'
  ·rw[List.getElem?_append_right h] at hv'
   have:o=n:=by
    rcases Nat.lt_or_ge (o-vs.length) 1 with h1|h1
    ·omega
    ·rw[List.getElem?_eq_none (by simpa using h1)] at hv';cases hv'
   subst this
   rw[hl,Nat.sub_self] at hv'
   simp at hv'
   exact hv' ▸ hu
section
variable {F:Nat→Prop} {w:World} {m:Nat→Prop} {ρ:List (Nat × Nat)}
theorem DenS_mk{ck:CK}{d:D}{u:Value}(h:DenC w m ck d u):DenS w m ρ (mk ck d) u:=by
 cases ck with
 |int k=>exact h
 |bool=>exact h
 |str=>exact h
 |sints k=>
  obtain⟨a,cap,h1,h2,h3,h4⟩:=h
  refine⟨a,cap,h1,h2,h3,?_⟩
  rcases h4 with h4|⟨ad,h5,h6,h7,h8⟩
  ·exact .inl (by simp[Row.count,h4])
  ·exact .inr ⟨ad,h5,h6,h7,fun i x hx=>h8 i x hx⟩
 |smat k wd=>
  obtain⟨a,cap,h1,h2,h3,h4⟩:=h
  refine⟨a,cap,h1,h2,h3,?_⟩
  rcases h4 with h4|⟨ad,h5,h6,h7,h8⟩
  ·exact .inl (by simp[Row.count,h4])
  ·exact .inr ⟨ad,h5,h6,h7,fun i x hx=>h8 i x hx⟩
theorem Row.sv_sound{get:Nat→Option Value}{r:Row}{i c:Nat}(hr:RowCells w m get r)(hh:r.has i c=true):
  ∃sv u,r.sv i c=some sv∧get (i*r.width+c)=some u∧DenS w m ρ sv u:=by
 cases r with
 |ints k xs=>
  simp only[Row.has,decide_eq_true_eq] at hh
  refine⟨_,_,rfl,?_,rfl⟩
  simp only[Row.width,Nat.mul_one]
  rw[hr (i+c) xs[i+c] (List.getElem?_eq_getElem hh)]
  simp[List.getD,List.getElem?_eq_getElem hh]
 |mat k wd xss=>
  simp only[Row.has,Bool.and_eq_true,decide_eq_true_eq] at hh
  refine⟨_,_,rfl,?_,rfl⟩
  have:=hr i xss[i] (List.getElem?_eq_getElem hh.2) c hh.1
  simp only[Row.width]
  rw[this]
  simp[List.getD,List.getElem?_eq_getElem hh.2]
 |recs cks xss=>
  simp only[Row.has,Bool.and_eq_true,decide_eq_true_eq] at hh
  obtain⟨u,hu,hd⟩:=hr i xss[i] (List.getElem?_eq_getElem hh.2) c cks[c] (List.getElem?_eq_getElem hh.1)
  refine⟨mk cks[c] ((xss.getD i []).getD c (.int 0)),u,by simp[Row.sv,List.getElem?_eq_getElem hh.1],by simpa [Row.width] using hu,?_⟩
  have:xss.getD i []=xss[i]:=by simp[List.getD,List.getElem?_eq_getElem hh.2]
  rw[this]
  exact DenS_mk hd
theorem Row.has_of_hasN{r:Row}{i c n o:Nat}(h:r.hasN i c n=true)(ho:o<n):r.has i (c+o)=true:=by
 cases n with
 |zero=>omega
 |succ n=>
  simp only[Row.hasN] at h
  cases r with
  |ints k xs=>simp only[Row.has,decide_eq_true_eq] at *;omega
  |mat k wd xss=>simp only[Row.has,Bool.and_eq_true,decide_eq_true_eq] at *;exact⟨by omega,h.2⟩
  |recs cks xss=>simp only[Row.has,Bool.and_eq_true,decide_eq_true_eq] at *;exact⟨by omega,h.2⟩
theorem Row.svs_get{r:Row}{i c n:Nat}{l:List SV}(h:r.svs i c n=some l):l.length=n∧ ∀o,o<n→ ∀sv,r.sv i (c+o)=some sv→l[o]? = some sv:=by
 cases r with
 |ints k xs=>
  simp only[Row.svs,Option.some.injEq] at h
  subst h
  refine⟨by simp,fun o ho sv hs=> ?_⟩
  simp only[Row.sv,Option.some.injEq] at hs
  simp only[List.getElem?_map,List.getElem?_range ho,Option.map_some]
  rw[hs]
 |mat k wd xss=>
  simp only[Row.svs,Option.some.injEq] at h
  subst h
  refine⟨by simp,fun o ho sv hs=> ?_⟩
  simp only[Row.sv,Option.some.injEq] at hs
  simp only[List.getElem?_map,List.getElem?_range ho,Option.map_some]
  rw[hs]
 |recs cks xss=>
  simp only[Row.svs] at h
  split at h
  ·simp only[Option.some.injEq] at h
   subst h
   refine⟨by simp,fun o ho sv hs=> ?_⟩
   simp[List.getElem?_range ho,hs]
  ·cases h
theorem Row.svs_sound{get:Nat→Option Value}{r:Row}{i c n:Nat}{l:List SV}(hr:RowCells w m get r)(h:r.svs i c n=some l)(hh:r.hasN i c n=true):
  ∃vs:List Value,vs.length=n∧(∀o u,vs[o]? = some u→get (i*r.width+c+o)=some u)∧All2 (DenS w m ρ) l vs:=by
 obtain⟨hl,hg⟩:=Row.svs_get h
 have H: ∀o,o<n→ ∃u,get (i*r.width+c+o)=some u∧ ∃sv,l[o]? = some sv∧DenS w m ρ sv u:=by
  intro o ho
  obtain⟨sv,u,h1,h2,h3⟩:=Row.sv_sound (ρ:=ρ) (c:=c+o) hr (Row.has_of_hasN hh ho)
  exact⟨u,by rw[← h2,Nat.add_assoc],sv,hg o ho sv h1,h3⟩
 obtain⟨vs,hvl,hvs⟩:=exists_list n H
 refine⟨vs,hvl,fun o u hu=>(hvs o u hu).1,All2.mk (by omega) fun i a b ha hb=> ?_⟩
 obtain⟨_,sv,hs,hd⟩:=hvs i b hb
 rw[ha] at hs
 cases hs
 exact hd
end
section
variable {F:Nat→Prop} {w:World} {ρ:List (Nat × Nat)} {σ:List Blk}
theorem loadSVs_sound(H:HeapOk F ρ σ w){p:SV}{n:Nat}{l:List SV}{u:Value}(h:loadSVs σ p n=some (true,l))(hp:DenS w (Mut F ρ σ) ρ p u):
  ∃ad,u= .pointer (some ad)∧ ∃vs:List Value,vs.length=n∧(∀o v,vs[o]? = some v→w.cell? (ad.add o)=some v)∧All2 (DenS w (Mut F ρ σ) ρ) l vs:=by
 cases p with
 |ptr id wd i c=>
  obtain⟨g,x,hg,rfl⟩:=hp
  refine⟨_,rfl,?_⟩
  have hadd: ∀o,(⟨g,i*wd+c,none⟩:Addr).add o=⟨g,i*wd+c+o,none⟩:=by
   intro o;unfold Addr.add;split
   ·rename_i h0;subst h0;rfl
   ·rfl
  simp only[loadSVs] at h
  split at h
  ·rename_i ls hb
   split at h
   ·rename_i hw
    subst hw
    split at h
    ·rename_i hle
     simp only[Option.some.injEq,Prod.mk.injEq,true_and] at h
     subst h
     obtain⟨⟨arr,t,ha,hc⟩,_,_⟩:=H.live id _ g x hb hg rfl
     have HH: ∀o,o<n→ ∃v,arr[i+c+o]? = some v∧ ∃sv,ls[i+c+o]? = some sv∧DenS w (Mut F ρ σ) ρ sv v:=by
      intro o ho
      have hlt:i+c+o<ls.length:=by omega
      obtain⟨v,hv,hd⟩:=hc (i+c+o) ls[i+c+o] (List.getElem?_eq_getElem hlt)
      exact⟨v,hv,_,List.getElem?_eq_getElem hlt,hd⟩
     obtain⟨vs,hvl,hvs⟩:=exists_list n HH
     refine⟨vs,hvl,fun o v hv=> ?_,All2.mk (by simp;omega) fun o a b ha' hb'=> ?_⟩
     ·rw[hadd,cell_of_row w g _ arr t (0,0) ha]
      simpa using(hvs o v hv).1
     ·obtain⟨_,sv,hs,hd⟩:=hvs o b hb'
      have ho:o<n:=by rw[← hvl];exact(List.getElem?_eq_some_iff.1 hb').1
      rw[List.getElem?_take_of_lt ho,List.getElem?_drop,hs] at ha'
      cases ha'
      exact hd
    ·cases h
   ·cases h
  ·rename_i t r hb
   split at h
   ·rename_i hw
    subst hw
    cases hsv:r.svs i c n with
    |none=>rw[hsv] at h;simp at h
    |some l'=>
     rw[hsv] at h
     simp only[Option.map_some,Option.some.injEq,Prod.mk.injEq] at h
     obtain⟨h1,rfl⟩:=h
     obtain⟨⟨arr,ha,hc⟩,_,_⟩:=H.live id _ g x hb hg rfl
     obtain⟨vs,hvl,hvs,hd⟩:=Row.svs_sound (ρ:=ρ) hc hsv h1
     refine⟨vs,hvl,fun o v hv=> ?_,hd⟩
     rw[hadd,cell_of_row w g _ arr t (0,0) ha]
     exact hvs o v hv
   ·cases h
  ·cases h
 |dptr r i c=>
  obtain⟨ad,rfl,hb,hm,hc⟩:=hp
  refine⟨_,rfl,?_⟩
  simp only[loadSVs] at h
  cases hsv:r.svs i c n with
  |none=>rw[hsv] at h;simp at h
  |some l'=>
   rw[hsv] at h
   simp only[Option.map_some,Option.some.injEq,Prod.mk.injEq] at h
   obtain⟨h1,rfl⟩:=h
   obtain⟨vs,hvl,hvs,hd⟩:=Row.svs_sound (ρ:=ρ) hc hsv h1
   refine⟨vs,hvl,fun o v hv=> ?_,hd⟩
   rw[add_add]
   exact hvs o v hv
 |glb g c=>
  cases hp
  refine⟨_,rfl,?_⟩
  simp only[loadSVs] at h
  split at h
  ·rename_i ls hg
   split at h
   ·rename_i hle
    simp only[Option.some.injEq,Prod.mk.injEq,true_and] at h
    subst h
    obtain⟨_,_,hc⟩:=H.glob g ls hg
    have HH: ∀o,o<n→ ∃v,w.cell? ⟨g,c+o,none⟩=some v∧ ∃sv,ls[c+o]? = some sv∧plainDen sv v:=by
     intro o ho
     have hlt:c+o<ls.length:=by omega
     obtain⟨⟨v,hv,hd⟩,_⟩:=hc (c+o) ls[c+o] (List.getElem?_eq_getElem hlt)
     exact⟨v,hv,_,List.getElem?_eq_getElem hlt,hd⟩
    obtain⟨vs,hvl,hvs⟩:=exists_list n HH
    refine⟨vs,hvl,fun o v hv=> ?_,All2.mk (by simp;omega) fun o a b ha' hb'=> ?_⟩
    ·have hadd:(⟨g,c,none⟩:Addr).add o=⟨g,c+o,none⟩:=by
      unfold Addr.add;split
      ·rename_i h0;subst h0;rfl
      ·rfl
     rw[hadd]
     exact(hvs o v hv).1
    ·obtain⟨_,sv,hs,hd⟩:=hvs o b hb'
     have ho:o<n:=by rw[← hvl];exact(List.getElem?_eq_some_iff.1 hb').1
     rw[List.getElem?_take_of_lt ho,List.getElem?_drop,hs] at ha'
     cases ha'
     exact hd.den
   ·cases h
  ·cases h
 |_=>simp[loadSVs] at h
end
end Go.Ev
