/-
  Part of the proof that TopClickOnly holds.
-/
import Derived.Calls
import Derived.Laws.World
import Derived.Laws.Sem
import Derived.Laws.Cells
import Derived.Laws.AppendOwn
import Derived.Laws.MakeOwn
import Derived.Laws.Entries
import Derived.Below
import Derived.CallsIn
import GoSem.Op.FloatArith
import GoSem.Op.FloatCmp
import GoSem.Op.Unary
import GoSem.Builtin.Max
import GoSem.Builtin.Min
set_option linter.unusedVariables false
set_option linter.unusedSimpArgs false
set_option linter.unusedSectionVars false
namespace Go.Ev
open Go Go.RowKit
inductive CK where
 |int (k:IntKind)
 |bool
 |str
 |sints (k:IntKind)
 |smat (k:IntKind) (w:Nat)
 deriving DecidableEq
inductive D where
 |int (n:Int)
 |bool (b:Bool)
 |str (s:List UInt8)
 |ints (xs:List Int)
 |mat (xss:List (List Int))
 deriving DecidableEq
def D.toInt:D→Int|.int n=>n|_=>0
def D.toBool:D→Bool|.bool b=>b|_=>false
def D.toStr:D→List UInt8|.str s=>s|_=>[]
def D.toInts:D→List Int|.ints xs=>xs|_=>[]
def D.toMat:D→List (List Int)|.mat xss=>xss|_=>[]
inductive Row where
 |ints (k:IntKind) (xs:List Int)
 |mat (k:IntKind) (w:Nat) (xss:List (List Int))
 |recs (cks:List CK) (xss:List (List D))
def Row.count:Row→Nat
 |.ints _ xs=>xs.length
 |.mat _ _ xss=>xss.length
 |.recs _ xss=>xss.length
def Row.width:Row→Nat
 |.ints _ _=>1
 |.mat _ w _=>w
 |.recs cks _=>cks.length
inductive SV where
 |any
 |int (k:IntKind) (n:Int)
 |bool (b:Bool)
 |str (s:List UInt8)
 |flt (k:FloatKind) (b:Nat)
 |nil
 |data (r:Row)
 |own (id w:Nat)
 |sub (id w i n:Nat)
 |ptr (id w i c:Nat)
 |dptr (r:Row) (i c:Nat)
 |func (f:FuncId) (cap:List Nat)
 |yld (id:Nat)
 |glb (g c:Nat)
 |mapv (id:Nat)
 |ifc (b:Bool)
 |ifv (t:TypeId) (l:List Int)
 |nptr
inductive TV where
 |one (s:SV)
 |agg (l:List SV)
inductive AV where
 |any
 |one (s:SV)
 |agg (l:List SV)
 |tup (l:List TV)
def TV.av:TV→AV|.one s=> .one s|.agg l=> .agg l
abbrev GJ:=(Nat→Prop)→(Nat→Prop)→Option (List (List AV))→World→Prop
inductive Blk where
 |dead
 |cells (l:List SV)
 |row (t:TypeId) (r:Row)
 |ghost (P:Program) (J:GJ) (D:Nat→Prop) (r:Option (List (List AV)))
 |map (kw vw:Nat) (l:List (List Int × List Int))
 |iter (m kw vw:Nat) (rem:List (List Int × List Int)) (cur:Option (List Int × List Int))
def Blk.live:Blk→Bool|.dead=>false|_=>true
def Blk.count:Blk→Nat
 |.dead=>0
 |.cells l=>l.length
 |.row _ r=>r.count
 |.ghost .. => 0
 |.map .. => 0
 |.iter .. => 0
def Blk.owns(b:Blk)(g k:Nat):Prop:=k=g∨match b with
 |.ghost _ _ D _=>D k
 |.iter m _ _ _ _=>k=m
 |_=>False
theorem Blk.owns_self(b:Blk)(g:Nat):b.owns g g:= .inl rfl
def Blk.solid:Blk→Prop|.ghost .. => False|.iter .. => False|_=>True
theorem Blk.owns_solid{b:Blk}(hs:b.solid){g k:Nat}(h:b.owns g k):k=g:=by
 cases b with
 |ghost=>exact hs.elim
 |iter=>exact hs.elim
 |_=>exact h.resolve_right (fun h=>h)
def mk:CK→D→SV
 |.int k,d=> .int k d.toInt
 |.bool,d=> .bool d.toBool
 |.str,d=> .str d.toStr
 |.sints k,d=> .data (.ints k d.toInts)
 |.smat k w,d=> .data (.mat k w d.toMat)
def Row.sv(r:Row)(i c:Nat):Option SV:=
 match r with
 |.ints k xs=>some (.int k (xs.getD (i+c) 0))
 |.mat k _ xss=>some (.int k ((xss.getD i []).getD c 0))
 |.recs cks xss=>(cks[c]?).map fun ck=>mk ck ((xss.getD i []).getD c (.int 0))
def Row.has(r:Row)(i c:Nat):Bool:=
 match r with
 |.ints _ xs=>decide (i+c<xs.length)
 |.mat _ w xss=>decide (c<w)&&decide (i<xss.length)
 |.recs cks xss=>decide (c<cks.length)&&decide (i<xss.length)
class Glob where
 tab:List (Nat × List SV)
def globOf:List (Nat × List SV)→Nat→Option (List SV)
 |[],_=>none
 |p::l,g=>bif Nat.beq p.1 g then some p.2 else globOf l g
def plainDen:SV→Value→Prop
 |.int k n,u=>u= .int k n
 |.bool b,u=>u= .bool b
 |.str s,u=>u= .string ⟨s.toArray⟩
 |.flt k b,u=>u= .float k b
 |.ifc b,u=>(b=true∧u= .nilIface)∨(b=false∧ ∃t v,u= .iface t v)
 |.any,u=> ∃n,u= .int .i64 n
 |_,_=>False
def GlobOK[Glob](m:Nat→Prop)(w:World):Prop:= ∀(g:Nat) (l:List SV),globOf Glob.tab g=some l→g<w.heap.size∧¬m g∧ ∀(j:Nat) (sv:SV),l[j]? = some sv→(∃u,w.cell? ⟨g,j,none⟩=some u∧plainDen sv u)∧ ∃arr t fr,w.heap[g]? = some (.cells arr t fr)∧arr.size=l.length
def IntsAt(w:World)(m:Nat→Prop)(k:IntKind)(xs:List Int)(u:Value):Prop:= ∃a cap,u= .slice a xs.length cap∧xs.length≤cap∧cap≤maxLen∧ (xs=[]∨ ∃ad,a=some ad∧ad.block<w.heap.size∧¬m ad.block∧ ∀(i:Nat) (x:Int),xs[i]? = some x→w.cell? (ad.add i)=some (.int k x))
def MatAt(w:World)(m:Nat→Prop)(k:IntKind)(wd:Nat)(xss:List (List Int))(u:Value):Prop:= ∃a cap,u= .slice a xss.length cap∧xss.length≤cap∧cap≤maxLen∧ (xss=[]∨ ∃ad,a=some ad∧ad.block<w.heap.size∧¬m ad.block∧ ∀(i:Nat) (xs:List Int),xss[i]? = some xs→ ∀c,c<wd→w.cell? (ad.add (i*wd+c))=some (.int k (xs.getD c 0)))
def DenC(w:World)(m:Nat→Prop):CK→D→Value→Prop
 |.int k,d,u=>u= .int k d.toInt
 |.bool,d,u=>u= .bool d.toBool
 |.str,d,u=>u= .string ⟨d.toStr.toArray⟩
 |.sints k,d,u=>IntsAt w m k d.toInts u
 |.smat k wd,d,u=>MatAt w m k wd d.toMat u
def RowCells(w:World)(m:Nat→Prop)(get:Nat→Option Value):Row→Prop
 |.ints k xs=> ∀(i:Nat) (x:Int),xs[i]? = some x→get i=some (.int k x)
 |.mat k wd xss=> ∀(i:Nat) (xs:List Int),xss[i]? = some xs→ ∀c,c<wd→get (i*wd+c)=some (.int k (xs.getD c 0))
 |.recs cks xss=> ∀(i:Nat) (xs:List D),xss[i]? = some xs→ ∀(c:Nat) (ck:CK),cks[c]? = some ck→ ∃u,get (i*cks.length+c)=some u∧DenC w m ck (xs.getD c (.int 0)) u
def RowAt(w:World)(m:Nat→Prop)(r:Row)(ad:Addr):Prop:= ad.block<w.heap.size∧¬m ad.block∧RowCells w m (fun j=>w.cell? (ad.add j)) r
def DenS(w:World)(m:Nat→Prop)(ρ:List (Nat × Nat)):SV→Value→Prop
 |.any,u=>u.oneCell'=true
 |.int k n,u=>u= .int k n
 |.bool b,u=>u= .bool b
 |.str s,u=>u= .string ⟨s.toArray⟩
 |.flt k b,u=>u= .float k b
 |.nil,u=>u= .slice none 0 0
 |.data r,u=> ∃a cap,u= .slice a r.count cap∧r.count≤cap∧cap≤maxLen∧(r.count=0∨ ∃ad,a=some ad∧RowAt w m r ad)
 |.own id wd,u=> ∃g n cap t sz,ρ[id]? = some (g,n)∧u= .slice (some ⟨g,0,none⟩) n cap∧n≤cap∧cap≤maxLen∧w.shape? g=some (t,sz)∧cap*wd≤sz
 |.sub id wd i n,u=> ∃g x off cap,ρ[id]? = some (g,x)∧u= .slice (some ⟨g,off,none⟩) n cap∧n≤cap∧cap≤maxLen∧(n=0∨off=i*wd)∧(i=0→off=0∧ ∃t sz,w.shape? g=some (t,sz)∧cap*wd≤sz)
 |.ptr id wd i c,u=> ∃g x,ρ[id]? = some (g,x)∧u= .pointer (some ⟨g,i*wd+c,none⟩)
 |.dptr r i c,u=> ∃ad,u= .pointer (some (ad.add (i*r.width+c)))∧RowAt w m r ad
 |.func f cap,u=> ∃gs:List (Nat × Nat),cap.map (ρ[·]?)=gs.map some∧u= .func (.func f) #[] (gs.map fun g=>Value.pointer (some ⟨g.1,0,none⟩)).toArray
 |.yld id,u=> ∃g x,ρ[id]? = some (g,x)∧u= .func (.yield g) #[] #[]
 |.glb g c,u=>u= .pointer (some ⟨g,c,none⟩)
 |.mapv id,u=> ∃g x,ρ[id]? = some (g,x)∧u= .map (some g)
 |.ifc b,u=>(b=true∧u= .nilIface)∨(b=false∧ ∃t v,u= .iface t v)
 |.ifv t l,u=>u= .iface t (.agg (l.map (Value.int .i64)).toArray)
 |.nptr,u=>u= .pointer none
def All2{α β:Type}(R:α→β→Prop):List α→List β→Prop
 |[],[]=>True
 |a::l,b::k=>R a b∧All2 R l k
 |_,_=>False
def DenT(w:World)(m:Nat→Prop)(ρ:List (Nat × Nat)):TV→Value→Prop
 |.one s,u=>DenS w m ρ s u
 |.agg l,u=> ∃vs:List Value,u= .agg vs.toArray∧All2 (DenS w m ρ) l vs
def Den(w:World)(m:Nat→Prop)(ρ:List (Nat × Nat)):AV→Value→Prop
 |.any,_=>True
 |.one s,u=>DenS w m ρ s u
 |.agg l,u=> ∃vs:List Value,u= .agg vs.toArray∧All2 (DenS w m ρ) l vs
 |.tup l,u=> ∃vs:List Value,u= .tuple vs.toArray∧All2 (DenT w m ρ) l vs
structure Keep(m m':Nat→Prop)(w w':World):Prop where
 size:w.heap.size≤w'.heap.size
 blk: ∀b,b<w.heap.size→¬m b→w'.heap[b]? = w.heap[b]?
 mt: ∀b,b<w.heap.size→m' b→m b
 shape: ∀b,b<w.heap.size→w'.shape? b=w.shape? b
structure Proto(P:Program)(l:Nat)(J:GJ):Prop where
 keep: ∀(m m' D:Nat→Prop) (r:Option (List (List AV))) (w w':World),J m D r w→Keep m m' w w'→(∀k,k=l∨D k→w'.heap[k]? = w.heap[k]?)→J m' D r w'
 round: ∀(m D:Nat→Prop) (x:List AV) (rest:List (List AV)) (w:World) (vals:List Value),J m D (some (x::rest)) w→(∀k,m k→k<w.heap.size)→(∀k,k=l∨D k→m k)→All2 (Den w m []) x vals→
  ∃fn tmps assign body,(Instr.yield l vals.toArray).run P w= .ok (.round l fn tmps assign body) w∧ ∀n,RoundIn Fence.wide n P l fn tmps assign body w fun e w'=> ∃(c:Bool) (D':Nat→Prop),e= .returned (.bool c)∧
   J (fun k=>(m k∧¬(k=l∨D k))∨(k=l∨D' k)) D' (if c then some rest else none) w'∧(∀k,D' k→(k<w.heap.size→D k)∧k<w'.heap.size)∧
   w.heap.size≤w'.heap.size∧(∀k,k<w.heap.size→¬(k=l∨D k)→w'.heap[k]? = w.heap[k]?)∧(∀k,k<w.heap.size→w'.shape? k=w.shape? k)∧w'.os=w.os∧w'.tape=w.tape∧w'.output=w.output
def valI(w:Nat)(xs:List Int):Value:=match w with
 |0=> .int .i64 (xs.getD 0 0)
 |_=> .agg (xs.map (Value.int .i64)).toArray
def wdI(w:Nat):Nat:=match w with|0=>1|n+1=>n+1
def EntAt(kw vw:Nat)(e:MapEntry)(x:List Int × List Int):Prop:=e.key=valI kw x.1∧e.val=valI vw x.2∧x.1.length=wdI kw∧x.2.length=wdI vw
def MapEs(kw vw:Nat)(es:Array MapEntry)(clock:Nat)(l:List (List Int × List Int)):Prop:= All2 (EntAt kw vw) es.toList l∧(es.toList.map (·.born)).Nodup∧ ∀e ∈ es.toList,e.born<clock
def unseen(es:Array MapEntry)(seen:Array Nat):List MapEntry:=es.toList.filter fun e=> !seen.contains e.born
def DenBlk(w:World)(m:Nat→Prop)(ρ:List (Nat × Nat))(g:Nat):Blk→Prop
 |.dead=>True
 |.ghost P J D r=>J m D r w∧Proto P g J
 |.cells l=> ∃arr t,w.heap[g]? = some (.cells arr t (0,0))∧ ∀(j:Nat) (sv:SV),l[j]? = some sv→ ∃u,arr[j]? = some u∧DenS w m ρ sv u
 |.row t r=> ∃arr,w.heap[g]? = some (.cells arr t (0,0))∧RowCells w m (fun j=>arr[j]?) r
 |.map kw vw l=> ∃es clock,w.heap[g]? = some (.map es clock)∧MapEs kw vw es clock l
 |.iter mb kw vw rem cur=> ∃es clock seen,w.heap[g]? = some (.mapIter (some mb) clock seen clock)∧w.heap[mb]? = some (.map es clock)∧(es.toList.map (·.born)).Nodup∧(∀e ∈ es.toList,e.born<clock)∧
   All2 (EntAt kw vw) (unseen es seen) rem∧(∀x,cur=some x→ ∃(e:MapEntry) (s:Array Nat),e ∈ es.toList∧seen=s.push e.born∧EntAt kw vw e x)
def LMut(ρ:List (Nat × Nat))(σ:List Blk)(k:Nat):Prop:= ∃(id:Nat) (b:Blk) (n g:Nat),σ[id]? = some b∧b.live=true∧ρ[id]? = some (g,n)∧b.owns g k
def Mut(F:Nat→Prop)(ρ:List (Nat × Nat))(σ:List Blk)(g:Nat):Prop:=F g∨LMut ρ σ g
theorem All2.length{α β:Type}{R:α→β→Prop}: ∀{l:List α} {k:List β},All2 R l k→l.length=k.length
 |[],[],_=>rfl
 |[],_::_,h=>h.elim
 |_::_,[],h=>h.elim
 |_::l,_::k,h=>by simp[All2.length h.2]
theorem All2.get{α β:Type}{R:α→β→Prop}: ∀{l:List α} {k:List β},All2 R l k→ ∀{i:Nat} {a:α},l[i]? = some a→ ∃b,k[i]? = some b∧R a b
 |[],[],_,_,_,h=>by simp at h
 |[],_::_,h,_,_,_=>h.elim
 |_::_,[],h,_,_,_=>h.elim
 |x::l,y::k,h,0,a,hi=>by simp at hi;subst hi;exact⟨y,rfl,h.1⟩
 |x::l,y::k,h,i+1,a,hi=>All2.get h.2 (by simpa using hi)
theorem All2.mk{α β:Type}{R:α→β→Prop}: ∀{l:List α} {k:List β},l.length=k.length→(∀(i:Nat) (a:α) (b:β),l[i]? = some a→k[i]? = some b→R a b)→All2 R l k
 |[],[],_,_=>trivial
 |[],_::_,h,_=>by simp at h
 |_::_,[],h,_=>by simp at h
 |x::l,y::k,h,H=>⟨H 0 x y rfl rfl,All2.mk (by simpa using h) fun i a b ha hb=>H (i+1) a b (by simpa using ha) (by simpa using hb)⟩
theorem All2.imp{α β:Type}{R S:α→β→Prop}(H: ∀a b,R a b→S a b): ∀{l:List α} {k:List β},All2 R l k→All2 S l k
 |[],[],_=>trivial
 |[],_::_,h=>h.elim
 |_::_,[],h=>h.elim
 |_::_,_::_,h=>⟨H _ _ h.1,All2.imp H h.2⟩
theorem All2.append{α β:Type}{R:α→β→Prop}: ∀{l l':List α} {k k':List β},All2 R l k→All2 R l' k'→All2 R (l++l') (k++k')
 |[],_,[],_,_,h'=>h'
 |[],_,_::_,_,h,_=>h.elim
 |_::_,_,[],_,h,_=>h.elim
 |_::_,_,_::_,_,h,h'=>⟨h.1,All2.append h.2 h'⟩
theorem All2.map_left{α β γ:Type}{R:α→β→Prop}{S:γ→β→Prop}{f:α→γ}(H: ∀a b,R a b→S (f a) b): ∀{l:List α} {k:List β},All2 R l k→All2 S (l.map f) k
 |[],[],_=>trivial
 |[],_::_,h=>h.elim
 |_::_,[],h=>h.elim
 |_::_,_::_,h=>⟨H _ _ h.1,All2.map_left H h.2⟩
theorem All2.take{α β:Type}{R:α→β→Prop}: ∀{l:List α} {k:List β} (n:Nat),All2 R l k→All2 R (l.take n) (k.take n)
 |_,_,0,_=>by simp[All2]
 |[],[],n+1,_=>by simp[All2]
 |[],_::_,_,h=>h.elim
 |_::_,[],_,h=>h.elim
 |_::_,_::_,n+1,h=>⟨h.1,All2.take n h.2⟩
theorem All2.drop{α β:Type}{R:α→β→Prop}: ∀{l:List α} {k:List β} (n:Nat),All2 R l k→All2 R (l.drop n) (k.drop n)
 |_,_,0,h=>h
 |[],[],n+1,_=>by simp[All2]
 |[],_::_,_,h=>h.elim
 |_::_,[],_,h=>h.elim
 |_::_,_::_,n+1,h=>All2.drop n h.2
theorem add_block(a:Addr)(n:Nat):(a.add n).block=a.block:=by unfold Addr.add;split<;>rfl
theorem add_add(a:Addr)(i j:Nat):(a.add i).add j=a.add (i+j):=by
 unfold Addr.add
 by_cases hi:i=0<;>by_cases hj:j=0<;>simp[hi,hj,Nat.add_assoc]
theorem cell_of_heap{w w':World}{a:Addr}(h:w'.heap[a.block]? = w.heap[a.block]?):w'.cell? a=w.cell? a:=World.cell?_of_block h
theorem shape_lt{w:World}{g:Nat}{x:TypeId × Nat}(h:w.shape? g=some x):g<w.heap.size:=by
 unfold World.shape? at h
 rcases Nat.lt_or_ge g w.heap.size with hl|hl
 ·exact hl
 ·rw[Array.getElem?_eq_none hl] at h;simp at h
section
variable {m m':Nat→Prop} {w w':World}
theorem Keep.refl(m:Nat→Prop)(w:World):Keep m m w w:=⟨Nat.le_refl _,fun _ _ _=>rfl,fun _ _ h=>h,fun _ _=>rfl⟩
theorem Keep.trans{m'':Nat→Prop}{w'':World}(h:Keep m m' w w')(k:Keep m' m'' w' w''):Keep m m'' w w'':= ⟨Nat.le_trans h.size k.size,fun b hb hm=>(k.blk b (Nat.lt_of_lt_of_le hb h.size) fun hm'=>hm (h.mt b hb hm')).trans (h.blk b hb hm),fun b hb hm=>h.mt b hb (k.mt b (Nat.lt_of_lt_of_le hb h.size) hm),fun b hb=>(k.shape b (Nat.lt_of_lt_of_le hb h.size)).trans (h.shape b hb)⟩
theorem GlobOK.keep[Glob](K:Keep m m' w w')(h:GlobOK m w):GlobOK m' w':=by
 intro g l hl
 obtain⟨h1,h2,h3⟩:=h g l hl
 refine⟨Nat.lt_of_lt_of_le h1 K.size,fun hm=>h2 (K.mt _ h1 hm),fun j sv hj=> ?_⟩
 obtain⟨⟨u,hu,hd⟩,arr,t,fr,ha,hs⟩:=h3 j sv hj
 exact⟨⟨u,by rw[cell_of_heap (w:=w)];exact hu;exact K.blk _ h1 h2,hd⟩,arr,t,fr,(K.blk _ h1 h2).trans ha,hs⟩
theorem plainDen.den{ρ:List (Nat × Nat)}{sv:SV}{u:Value}(h:plainDen sv u):DenS w m ρ sv u:=by
 cases sv with
 |int k n=>exact h
 |bool b=>exact h
 |str s=>exact h
 |flt k b=>exact h
 |ifc b=>exact h
 |any=>obtain⟨n,rfl⟩:=h;rfl
 |_=>exact h.elim
theorem IntsAt.keep{k:IntKind}{xs:List Int}{u:Value}(K:Keep m m' w w')(h:IntsAt w m k xs u):IntsAt w' m' k xs u:=by
 obtain⟨a,cap,h1,h2,h3,h4⟩:=h
 refine⟨a,cap,h1,h2,h3,h4.imp_right ?_⟩
 rintro ⟨ad,e,hb,hm,hc⟩
 refine⟨ad,e,Nat.lt_of_lt_of_le hb K.size,fun hm'=>hm (K.mt _ hb hm'),fun i x hx=> ?_⟩
 rw[cell_of_heap (w:=w)]
 ·exact hc i x hx
 ·rw[add_block];exact K.blk _ hb hm
theorem MatAt.keep{k:IntKind}{wd:Nat}{xss:List (List Int)}{u:Value}(K:Keep m m' w w')(h:MatAt w m k wd xss u):MatAt w' m' k wd xss u:=by
 obtain⟨a,cap,h1,h2,h3,h4⟩:=h
 refine⟨a,cap,h1,h2,h3,h4.imp_right ?_⟩
 rintro ⟨ad,e,hb,hm,hc⟩
 refine⟨ad,e,Nat.lt_of_lt_of_le hb K.size,fun hm'=>hm (K.mt _ hb hm'),fun i x hx c hc'=> ?_⟩
 rw[cell_of_heap (w:=w)]
 ·exact hc i x hx c hc'
 ·rw[add_block];exact K.blk _ hb hm
theorem DenC.keep{ck:CK}{d:D}{u:Value}(K:Keep m m' w w')(h:DenC w m ck d u):DenC w' m' ck d u:=by
 cases ck with
 |sints k=>exact IntsAt.keep K h
 |smat k wd=>exact MatAt.keep K h
 |_=>exact h
theorem RowCells.keep{get:Nat→Option Value}{r:Row}(K:Keep m m' w w')(h:RowCells w m get r):RowCells w' m' get r:=by
 cases r with
 |ints k xs=>exact h
 |mat k wd xss=>exact h
 |recs cks xss=>
  intro i xs hi c ck hc
  obtain⟨u,hu,hd⟩:=h i xs hi c ck hc
  exact⟨u,hu,hd.keep K⟩
theorem RowCells.congr{get get':Nat→Option Value}{r:Row}(h:RowCells w m get r)(H: ∀j u,get j=some u→get' j=some u):RowCells w m get' r:=by
 cases r with
 |ints k xs=>exact fun i x hx=>H _ _ (h i x hx)
 |mat k wd xss=>exact fun i xs hi c hc=>H _ _ (h i xs hi c hc)
 |recs cks xss=>
  intro i xs hi c ck hc
  obtain⟨u,hu,hd⟩:=h i xs hi c ck hc
  exact⟨u,H _ _ hu,hd⟩
theorem RowAt.keep{r:Row}{ad:Addr}(K:Keep m m' w w')(h:RowAt w m r ad):RowAt w' m' r ad:=by
 obtain⟨hb,hm,hc⟩:=h
 refine⟨Nat.lt_of_lt_of_le hb K.size,fun hm'=>hm (K.mt _ hb hm'),(hc.keep K).congr fun j u hj=> ?_⟩
 rw[cell_of_heap (w:=w)]
 ·exact hj
 ·rw[add_block];exact K.blk _ hb hm
theorem DenS.keep{ρ ρ':List (Nat × Nat)}{sv:SV}{u:Value}(K:Keep m m' w w')(hρ: ∀(id:Nat) (g:Nat × Nat),ρ[id]? = some g→ρ'[id]? = some g)(h:DenS w m ρ sv u):DenS w' m' ρ' sv u:=by
 cases sv with
 |data r=>
  obtain⟨a,cap,h1,h2,h3,h4⟩:=h
  exact⟨a,cap,h1,h2,h3,h4.imp_right fun⟨ad,e,hr⟩=>⟨ad,e,hr.keep K⟩⟩
 |own id wd=>
  obtain⟨g,n,cap,t,sz,h1,h2,h3,h4,h5,h6⟩:=h
  exact⟨g,n,cap,t,sz,hρ _ _ h1,h2,h3,h4,(K.shape g (shape_lt h5)).trans h5,h6⟩
 |sub id wd i n=>
  obtain⟨g,x,off,cap,h1,h2,h3,h4,h5,h6⟩:=h
  exact⟨g,x,off,cap,hρ _ _ h1,h2,h3,h4,h5,fun hi=>(h6 hi).imp_right fun⟨t,sz,a,b⟩=>⟨t,sz,(K.shape g (shape_lt a)).trans a,b⟩⟩
 |ptr id wd i c=>
  obtain⟨g,x,h1,h2⟩:=h
  exact⟨g,x,hρ _ _ h1,h2⟩
 |dptr r i c=>
  obtain⟨ad,h1,h2⟩:=h
  exact⟨ad,h1,h2.keep K⟩
 |func f cap=>
  obtain⟨gs,h1,h2⟩:=h
  refine⟨gs,?_,h2⟩
  have: ∀(cap:List Nat) (gs:List (Nat × Nat)),cap.map (ρ[·]?)=gs.map some→cap.map (ρ'[·]?)=gs.map some:=by
   intro cap
   induction cap with
   |nil=>intro gs h;simpa using h
   |cons c cap ih=>
    intro gs h
    cases gs with
    |nil=>simp at h
    |cons g gs=>
     simp only[List.map_cons,List.cons.injEq] at h ⊢
     exact⟨hρ _ _ h.1,ih gs h.2⟩
  exact this cap gs h1
 |yld id=>
  obtain⟨g,x,h1,h2⟩:=h
  exact⟨g,x,hρ _ _ h1,h2⟩
 |mapv id=>
  obtain⟨g,x,h1,h2⟩:=h
  exact⟨g,x,hρ _ _ h1,h2⟩
 |_=>exact h
theorem DenT.keep{ρ ρ':List (Nat × Nat)}{tv:TV}{u:Value}(K:Keep m m' w w')(hρ: ∀(id:Nat) (g:Nat × Nat),ρ[id]? = some g→ρ'[id]? = some g)(h:DenT w m ρ tv u):DenT w' m' ρ' tv u:=by
 cases tv with
 |one s=>exact DenS.keep K hρ h
 |agg l=>
  obtain⟨vs,e,hl⟩:=h
  exact⟨vs,e,hl.imp fun _ _=>DenS.keep K hρ⟩
theorem Den.keep{ρ ρ':List (Nat × Nat)}{a:AV}{u:Value}(K:Keep m m' w w')(hρ: ∀(id:Nat) (g:Nat × Nat),ρ[id]? = some g→ρ'[id]? = some g)(h:Den w m ρ a u):Den w' m' ρ' a u:=by
 cases a with
 |any=>trivial
 |one s=>exact DenS.keep K hρ h
 |agg l=>
  obtain⟨vs,e,hl⟩:=h
  exact⟨vs,e,hl.imp fun _ _=>DenS.keep K hρ⟩
 |tup l=>
  obtain⟨vs,e,hl⟩:=h
  exact⟨vs,e,hl.imp fun _ _=>DenT.keep K hρ⟩
theorem DenBlk.keep{ρ ρ':List (Nat × Nat)}{g:Nat}{b:Blk}(K:Keep m m' w w')(hρ: ∀(id:Nat) (g:Nat × Nat),ρ[id]? = some g→ρ'[id]? = some g)(hh: ∀k,b.owns g k→w'.heap[k]? = w.heap[k]?)
  (h:DenBlk w m ρ g b):DenBlk w' m' ρ' g b:=by
 have hg:=hh g (b.owns_self g)
 cases b with
 |dead=>trivial
 |ghost P J D r=>exact⟨h.2.keep m m' D r w w' h.1 K hh,h.2⟩
 |cells l=>
  obtain⟨arr,t,h1,h2⟩:=h
  refine⟨arr,t,hg.trans h1,fun j sv hj=> ?_⟩
  obtain⟨u,hu,hd⟩:=h2 j sv hj
  exact⟨u,hu,hd.keep K hρ⟩
 |row t r=>
  obtain⟨arr,h1,h2⟩:=h
  exact⟨arr,hg.trans h1,h2.keep K⟩
 |map kw vw l=>
  obtain⟨es,clock,h1,h2⟩:=h
  exact⟨es,clock,hg.trans h1,h2⟩
 |iter mb kw vw rem cur=>
  obtain⟨es,clock,seen,h1,h2,h3⟩:=h
  exact⟨es,clock,seen,hg.trans h1,(hh mb (.inr rfl)).trans h2,h3⟩
end
theorem DenS.one{w:World}{m:Nat→Prop}{ρ:List (Nat × Nat)}{sv:SV}{u:Value}(h:DenS w m ρ sv u):u.oneCell'=true:=by
 cases sv with
 |any=>exact h
 |data r=>obtain⟨a,cap,rfl,_⟩:=h;rfl
 |own id wd=>obtain⟨g,n,cap,t,sz,_,rfl,_⟩:=h;rfl
 |sub id wd i n=>obtain⟨g,x,off,cap,_,rfl,_⟩:=h;rfl
 |ptr id wd i c=>obtain⟨g,x,_,rfl⟩:=h;rfl
 |dptr r i c=>obtain⟨ad,rfl,_⟩:=h;rfl
 |func f cap=>obtain⟨gs,_,rfl⟩:=h;rfl
 |yld id=>obtain⟨g,x,_,rfl⟩:=h;rfl
 |glb g c=>cases h;rfl
 |mapv id=>obtain⟨g,x,_,rfl⟩:=h;rfl
 |ifc b=>rcases h with⟨_,rfl⟩|⟨_,t,v,rfl⟩<;>rfl
 |ifv t l=>cases h;rfl
 |nptr=>cases h;rfl
 |int k n=>cases h;rfl
 |bool b=>cases h;rfl
 |str s=>cases h;rfl
 |flt k b=>cases h;rfl
 |nil=>cases h;rfl
end Go.Ev
namespace Go.Ev
open Go
def fArith(op:BinOp)(k:FloatKind)(a b:Nat):Option Nat:=
 match op with
 |.add=>k.format.add a b
 |.sub=>k.format.sub a b
 |.mul=>k.format.mul a b
 |.quo=>k.format.div a b
 |_=>none
def fOk(op:BinOp)(k:FloatKind)(a b:Nat):Bool:=(fArith op k a b).isSome
def fVal(op:BinOp)(k:FloatKind)(a b:Nat):Nat:=(fArith op k a b).getD 0
def fCmp(op:BinOp)(k:FloatKind)(x y:Nat):Bool:=
 match op with
 |.eql=>k.format.order x y==some .eq
 |.neq=>k.format.order x y != some .eq
 |.lss=>k.format.order x y==some .lt
 |.leq=>k.format.order x y==some .lt||k.format.order x y==some .eq
 |.gtr=>k.format.order x y==some .gt
 |_=>k.format.order x y==some .gt||k.format.order x y==some .eq
def fNeg(k:FloatKind)(a:Nat):Nat:=Op.negFloat k a
def fOf(k:FloatKind)(n:Int):Nat:=k.nearest n
def fToOk(s:FloatKind)(b:Nat)(d:IntKind):Bool:=
 match (s.decode b).toInt .zero with
 |some n=>decide (d.min≤n∧n≤d.max)
 |none=>false
def fToV(s:FloatKind)(b:Nat):Int:=((s.decode b).toInt .zero).getD 0
def fMaxOk(k:FloatKind)(x y:Nat):Bool:=(k.format.order x y).isSome
def fMaxV(k:FloatKind)(x y:Nat):Nat:=
 match k.format.order x y with
 |none=>0
 |some .lt=>y
 |some .gt=>x
 |some .eq=>if(k.decode x).neg then y else x
def isArith:BinOp→Bool|.add|.sub|.mul|.quo=>true|_=>false
def isCmp:BinOp→Bool|.eql|.neq|.lss|.leq|.gtr|.geq=>true|_=>false
end Go.Ev
namespace Go.Ev
open Go
variable [Glob]
structure St where
 t:List AV
 σ:List Blk
def svc:Value→Option SV
 |.int k n=>some (.int k n)
 |.bool b=>some (.bool b)
 |.string s=>some (.str s.data.toList)
 |.float k b=>some (.flt k b)
 |.slice none 0 0=>some .nil
 |.nilIface=>some (.ifc true)
 |.pointer none=>some .nptr
 |.agg _=>none
 |.tuple _=>none
 |_=>some .any
def svcs:List Value→Option (List SV)
 |[]=>some []
 |v::l=>match svc v,svcs l with
  |some s,some k=>some (s::k)
  |_,_=>none
def avc:Value→AV
 |.agg cs=>match svcs cs.toList with
  |some l=> .agg l
  |none=> .any
 |.tuple _=> .any
 |v=>match svc v with
  |some s=> .one s
  |none=> .any
def St.ov(s:St):Operand→AV
 |.tmp t=>s.t.getD t .any
 |.const v=>avc v
 |.global g=> .one (.glb g 0)
 |.func f=> .one (.func f [])
def setT(t:List AV)(d:Option Tmp)(v:AV):List AV:=
 match d with
 |some d=>t.set d v
 |none=>t
def sizeT(P:Program)(t:TypeId):Option Nat:=(P.info? t).map (·.size)
def aggT(P:Program)(t:TypeId):Option Bool:=(P.underlying t).map fun|.struct _=>true|.array _ _=>true|_=>false
def zeroT(P:Program)(t:TypeId):Option (List SV):=((P.info? t).bind (·.zero)).bind fun z=>svcs z.cells.toList
def ofCells(P:Program)(t:TypeId)(l:List SV):Option AV:=
 match aggT P t with
 |some true=>some (.agg l)
 |some false=>match l with
  |[s]=>some (.one s)
  |_=>none
 |none=>none
def AV.cells:AV→Option (List SV)
 |.one s=>some [s]
 |.agg l=>some l
 |_=>none
def Row.hasN(r:Row)(i c n:Nat):Bool:=match n with|0=>true|n+1=>r.has i (c+n)
def Row.svs(r:Row)(i c n:Nat):Option (List SV):=
 match r with
 |.ints k xs=>some ((List.range n).map fun o=> .int k (xs.getD (i+(c+o)) 0))
 |.mat k _ xss=>some ((List.range n).map fun o=> .int k ((xss.getD i []).getD (c+o) 0))
 |.recs cks xss=>if c+n≤cks.length then some ((List.range n).map fun o=>(Row.sv (.recs cks xss) i (c+o)).getD .any) else none
def Row.part(r:Row)(i n:Nat):Row:=
 match r with
 |.ints k xs=> .ints k ((xs.drop i).take n)
 |.mat k w xss=> .mat k w ((xss.drop i).take n)
 |.recs cks xss=> .recs cks ((xss.drop i).take n)
def loadSVs(σ:List Blk)(p:SV)(n:Nat):Option (Bool × List SV):=
 match p with
 |.ptr id wd i c=>
  match σ[id]? with
  |some (.cells l)=>if wd=1 then(if i+c+n≤l.length then some (true,(l.drop (i+c)).take n) else none) else none
  |some (.row _ r)=>if wd=r.width then(r.svs i c n).map (r.hasN i c n,·) else none
  |_=>none
 |.dptr r i c=>(r.svs i c n).map (r.hasN i c n,·)
 |.glb g c=>match globOf Glob.tab g with
  |some l=>if c+n≤l.length then some (true,(l.drop c).take n) else none
  |none=>none
 |_=>none
def asInts:IntKind→List SV→Option (List Int)
 |_,[]=>some []
 |k,.int k' n::l=>if k'=k then(asInts k l).map (n :: ·) else none
 |_,_=>none
def kindOf:List SV→Option IntKind
 |.int k _::_=>some k
 |_=>none
def Blk.setN(P:Program)(b:Blk)(wd i c:Nat)(l:List SV):Option (Bool × Blk):=
 match b with
 |.cells ls=>if wd=1 then(if i+c+l.length≤ls.length then some (true,.cells (ls.take (i+c)++l++ls.drop (i+c+l.length))) else none) else none
 |.row t (.ints k xs)=>
  if wd=1 then
   match asInts k l with
   |some ys=>
    match ys with
    |[y]=>some (decide (i+c<xs.length),.row t (.ints k (xs.set (i+c) y)))
    |ys=>if sizeT P t=some ys.length then(if i+c=0 then some (decide (xs.length=ys.length),.row t (.ints k ys)) else none) else some (decide (i+c+ys.length≤xs.length),.row t (.ints k (xs.take (i+c)++ys++xs.drop (i+c+ys.length))))
   |none=>none
  else none
 |.row t (.mat k w xss)=>
  if wd=w then
   match asInts k l with
   |some ys=>
    if ys.length=w∧c=0 then some (decide (i<xss.length),.row t (.mat k w (xss.set i ys)))
    else match ys with
     |[y]=>some (decide (c<w)&&decide (i<xss.length)&&decide ((xss.getD i []).length=w),.row t (.mat k w (xss.set i ((xss.getD i []).set c y))))
     |_=>none
   |none=>none
  else none
 |_=>none
def storeSVs(P:Program)(σ:List Blk)(p:SV)(l:List SV):Option (Bool × List Blk):=
 match p with
 |.ptr id wd i c=>
  match σ[id]? with
  |some b=>(b.setN P wd i c l).map fun(h,b')=>(h,σ.set id b')
  |none=>none
 |_=>none
def intBin(op:BinOp)(k:IntKind)(x y:Int):Option (Bool × SV):=
 match op with
 |.add=>some (true,.int k (k.wrap (x+y)))
 |.sub=>some (true,.int k (k.wrap (x-y)))
 |.mul=>some (true,.int k (k.wrap (x*y)))
 |.quo=>some (!decide (y=0),.int k (k.wrap (x.tdiv y)))
 |.rem=>some (!decide (y=0),.int k (x.tmod y))
 |.eql=>some (true,.bool (x==y))
 |.neq=>some (true,.bool (x != y))
 |.lss=>some (true,.bool (decide (x<y)))
 |.leq=>some (true,.bool (decide (x≤y)))
 |.gtr=>some (true,.bool (decide (x>y)))
 |.geq=>some (true,.bool (decide (x≥y)))
 |.and=>some (true,.int k (k.wrap (BitVec.ofInt k.bits x &&& BitVec.ofInt k.bits y).toNat))
 |_=>none
def shiftBin(op:BinOp)(k:IntKind)(x y:Int):Option (Bool × SV):=
 match op with
 |.shl=>some (!decide (y<0),.int k (k.wrap (x*2^(min y.toNat k.bits))))
 |.shr=>some (!decide (y<0),.int k (x.fdiv (2^(min y.toNat k.bits))))
 |_=>none
def isShift:BinOp→Bool|.shl|.shr=>true|_=>false
def evUn(op:UnOp)(x:AV):Option (Bool × AV):=
 match op,x with
 |.neg,.one (.int k n)=>some (true,.one (.int k (k.wrap (0-n))))
 |.not,.one (.bool b)=>some (true,.one (.bool !b))
 |.neg,.one (.flt k b)=>some (true,.one (.flt k (fNeg k b)))
 |_,_=>none
def svLen(σ:List Blk):SV→Option Nat
 |.nil=>some 0
 |.data r=>some r.count
 |.own id _=>(σ[id]?).bind fun b=>if b.live then some b.count else none
 |.sub _ _ _ n=>some n
 |.str s=>some s.length
 |_=>none
def svWidth(s:SV)(sz:Nat):Bool:=
 match s with
 |.data r=>r.width==sz
 |.own _ wd=>wd==sz
 |.sub _ wd _ _=>wd==sz
 |.nil=>true
 |_=>false
def cutSV(σ:List Blk)(x:SV)(l h:Nat):Option (Bool × SV):=
 match x with
 |.nil=>some (decide (h≤0)&&decide (l≤h),.nil)
 |.data r=>some (decide (h≤r.count)&&decide (l≤h),.data (r.part l (h-l)))
 |.own id wd=>match svLen σ (.own id wd) with
  |some n=>some (decide (h≤n)&&decide (l≤h),.sub id wd l (h-l))
  |none=>none
 |.sub id wd i n=>some (decide (h≤n)&&decide (l≤h),.sub id wd (i+l) (h-l))
 |.str s=>some (decide (h≤s.length)&&decide (l≤h),.str ((s.drop l).take (h-l)))
 |_=>none
def bound(dflt:Nat):Option AV→Option (Bool × Nat)
 |none=>some (true,dflt)
 |some (.one (.int _ n))=>some (decide (0≤n),n.toNat)
 |_=>none
def roomOf:Blk→Option Nat
 |.cells l=>some l.length
 |.row _ (.ints _ xs)=>some xs.length
 |_=>none
def arrData(r:Row)(i c n:Nat):Option (Bool × Row):=
 match r with
 |.mat k w xss=>some (decide (c+n≤w)&&(decide (i<xss.length)&&decide (c+n≤(xss.getD i []).length)),.ints k (((xss.getD i []).drop c).take n))
 |_=>none
def strRow:List SV→Option (List (List D))
 |[]=>some []
 |.str s::l=>(strRow l).map ([.str s] :: ·)
 |_=>none
def evSlice(P:Program)(σ:List Blk)(t:TypeId)(x:AV)(lo hi mx:Option AV):Option (Bool × AV):=
 match mx,P.underlying t,x with
 |none,some (.slice e),.one s=>
  match svLen σ s with
  |some n=>
   match bound 0 lo,bound n hi,sizeT P e with
   |some (c1,l),some (c2,h),some sz=>if svWidth s sz then(cutSV σ s l h).map fun(c,v)=>(c1&&(c2&&c),.one v) else none
   |_,_,_=>none
  |_=>none
 |none,some .string,.one (.str s)=>
  match bound 0 lo,bound s.length hi with
  |some (c1,l),some (c2,h)=>(cutSV σ (.str s) l h).map fun(c,v)=>(c1&&(c2&&c),.one v)
  |_,_=>none
 |none,some (.array n e),.one (.ptr id wd i c)=>
  if n≤1048576 then
  match wd,σ[id]?,lo,hi with
  |1,some (.row _ (.ints _ xs)),none,none=>if i+c=0 then(if sizeT P e=some 1 then some (decide (xs.length=n),.one (.own id 1)) else none) else none
  |1,some b,_,_=>
   match roomOf b,bound 0 lo,bound n hi with
   |some q,some (c1,l),some (c2,h)=>if sizeT P e=some 1 then some (decide (i+c+n≤q)&&(c1&&(c2&&(decide (h≤n)&&decide (l≤h)))),.one (.sub id 1 (i+c+l) (h-l))) else none
   |_,_,_=>none
  |_,_,_,_=>none
  else none
 |none,some (.array n e),.one (.dptr r i c)=>
  match lo,hi,sizeT P e with
  |none,none,some 1=>if n≤1048576 then(arrData r i c n).map fun(b,r')=>(b,.one (.data r')) else none
  |_,_,_=>none
 |none,some (.array n e),.one (.glb g c)=>
  match lo,hi,sizeT P e,(globOf Glob.tab g).bind fun l=>strRow ((l.drop c).take n) with
  |none,none,some 1,some xs=>if n≤1048576∧xs.length=n then some (true,.one (.data (.recs [.str] xs))) else none
  |_,_,_,_=>none
 |_,_,_=>none
def evSlice3(P:Program)(t:TypeId)(x:AV)(lo:Option AV)(hi mx:AV):Option (Bool × AV):=
 match P.underlying t,x with
 |some (.slice e),.one (.data r)=>
  match bound 0 lo,bound 0 (some hi),bound 0 (some mx),sizeT P e with
  |some (c1,l),some (c2,h),some (c3,m),some sz=>if r.width=sz then some (c1&&(c2&&(c3&&(decide (h≤m)&&(decide (m≤r.count)&&decide (l≤h))))),.one (.data (r.part l (h-l)))) else none
  |_,_,_,_=>none
 |_,_=>none
end Go.Ev
namespace Go.Ev
open Go
variable [Glob]
def stepN(j sz:Nat):Nat:=if sz=1 then j else j*sz
def evIndexAddr(P:Program)(σ:List Blk)(t:TypeId)(x ix:AV):Option (Bool × AV):=
 match ix,P.underlying t,x with
 |.one (.int _ j),some (.array n e),.one (.ptr id wd i c)=>
  match sizeT P e with
  |some sz=>some (decide (0≤j)&&decide (j<(n:Int)),.one (if wd=1 then .ptr id 1 (i+stepN j.toNat sz) c else .ptr id wd i (c+stepN j.toNat sz)))
  |none=>none
 |.one (.int _ j),some (.array n e),.one (.dptr r i c)=>
  match sizeT P e with
  |some sz=>some (decide (0≤j)&&decide (j<(n:Int)),.one (if r.width=1 then .dptr r (i+stepN j.toNat sz) c else .dptr r i (c+stepN j.toNat sz)))
  |none=>none
 |.one (.int _ j),some (.array n e),.one (.glb g c)=>
  match sizeT P e with
  |some sz=>some (decide (0≤j)&&decide (j<(n:Int)),.one (.glb g (c+stepN j.toNat sz)))
  |none=>none
 |.one (.int _ j),some (.slice e),.one s=>
  match svLen σ s,sizeT P e,s with
  |some n,some sz,.data r=>if r.width=sz then some (decide (0≤j)&&decide (j<(n:Int)),.one (.dptr r j.toNat 0)) else none
  |some n,some sz,.own id wd=>if wd=sz then some (decide (0≤j)&&decide (j<(n:Int)),.one (.ptr id wd j.toNat 0)) else none
  |some n,some sz,.sub id wd i _=>if wd=sz then some (decide (0≤j)&&decide (j<(n:Int)),.one (.ptr id wd (i+j.toNat) 0)) else none
  |_,_,_=>none
 |_,_,_=>none
def evFieldAddr(P:Program)(t:TypeId)(x:AV)(f:Nat):Option (Bool × AV):=
 match P.underlying t with
 |some (.struct fs)=>
  match fs[f]? with
  |some fd=>
   match sizeT P fd.type,x with
   |some (_+1),.one (.ptr id wd i c)=>some (true,.one (.ptr id wd i (c+fd.offset)))
   |some (_+1),.one (.dptr r i c)=>some (true,.one (.dptr r i (c+fd.offset)))
   |some (_+1),.one (.glb g c)=>some (true,.one (.glb g (c+fd.offset)))
   |_,_=>none
  |none=>none
 |_=>none
def partSV(P:Program)(t:TypeId)(l:List SV)(off:Nat):Option AV:=
 match aggT P t,sizeT P t with
 |some true,some sz=>if off+sz≤l.length then some (.agg ((l.drop off).take sz)) else none
 |some false,_=>(l[off]?).map .one
 |_,_=>none
def eqL{α:Type}(g:α→Option Bool):List α→Option Bool
 |[]=>some true
 |[a]=>g a
 |a::l=>match g a,eqL g l with
  |some x,some y=>some (x&&y)
  |_,_=>none
def eqAV(P:Program):(fuel:Nat)→TypeId→AV→AV→Option Bool
 |0,_,_,_=>none
 |f+1,t,x,y=>
  match P.underlying t,x,y with
  |some (.int _),.one (.int k a),.one (.int k' b)=>if k=k' then some (a==b) else none
  |some .bool,.one (.bool a),.one (.bool b)=>some (a==b)
  |some .string,.one (.str a),.one (.str b)=>some (a==b)
  |some (.struct fs),.agg a,.agg b=>if P.stoodInHeld t then none else
   eqL (fun fd=>if fd.name = "_" then none else match partSV P fd.type a fd.offset,partSV P fd.type b fd.offset with
    |some u,some v=>eqAV P f fd.type u v
    |_,_=>none) fs.toList
  |some (.array n e),.agg a,.agg b=>match sizeT P e with
   |some sz=>eqL (fun i=>match partSV P e a (i*sz),partSV P e b (i*sz) with
    |some u,some v=>eqAV P f e u v
    |_,_=>none) (List.range n)
   |none=>none
  |_,_,_=>none
def evBin(P:Program)(op:BinOp)(xt:TypeId)(x y:AV):Option (Bool × AV):=
 match x,y with
 |.one (.int k a),.one (.int k' b)=>
  if isShift op then(shiftBin op k a b).map fun(c,s)=>(c,.one s)
  else if k=k' then(intBin op k a b).map fun(c,s)=>(c,.one s) else none
 |.one (.str a),.one (.str b)=>
  match op with
  |.add=>some (decide (a.length+b.length≤140737488355328),.one (.str (a++b)))
  |.eql=>some (true,.one (.bool (a==b)))
  |.neq=>some (true,.one (.bool (!(a==b))))
  |_=>none
 |.one (.bool a),.one (.bool b)=>
  match op,P.underlying xt with
  |.eql,some .bool=>some (true,.one (.bool (a==b)))
  |.neq,some .bool=>some (true,.one (.bool (!(a==b))))
  |_,_=>none
 |.one (.ptr _ _ _ _),.one .nptr=>
  match op,P.underlying xt with
  |.eql,some (.pointer _)=>some (true,.one (.bool false))
  |.neq,some (.pointer _)=>some (true,.one (.bool true))
  |_,_=>none
 |.one .nptr,.one .nptr=>
  match op,P.underlying xt with
  |.eql,some (.pointer _)=>some (true,.one (.bool true))
  |.neq,some (.pointer _)=>some (true,.one (.bool false))
  |_,_=>none
 |.one (.flt k a),.one (.flt k' b)=>
  if k=k' then(if isArith op then some (fOk op k a b,.one (.flt k (fVal op k a b))) else if isCmp op then some (true,.one (.bool (fCmp op k a b))) else none) else none
 |.agg a,.agg b=>
  if P.eqGuardType P.depth xt then none
  else
   match op,eqAV P 8 xt (.agg a) (.agg b) with
   |.eql,some e=>some (true,.one (.bool e))
   |.neq,some e=>some (true,.one (.bool (!e)))
   |_,_=>none
 |_,_=>none
def evField(P:Program)(t:TypeId)(x:AV)(f:Nat):Option (Bool × AV):=
 match P.underlying t,x with
 |some (.struct fs),.agg l=>
  match fs[f]? with
  |some fd=>(partSV P fd.type l fd.offset).map (true,·)
  |none=>none
 |_,_=>none
def intsOf(l:List SV):Option (IntKind × List Int):=
 match kindOf l with
 |some k=>(asInts k l).map (k,·)
 |none=>none
def evIndex(P:Program)(t:TypeId)(x ix:AV):Option (Bool × AV):=
 match ix,P.underlying t,x with
 |.one (.int _ j),some (.array n e),.agg l=>
  match sizeT P e with
  |some sz=>match intsOf l,sz with
   |some (k,xs),1=>if aggT P e=some false∧n≤xs.length then some (decide (0≤j)&&decide (j<(n:Int)),.one (.int k (xs.getD j.toNat 0))) else none
   |_,_=>(partSV P e l (j.toNat*sz)).map (decide (0≤j)&&decide (j<(n:Int)),·)
  |none=>none
 |.one (.int _ j),some .string,.one (.str s)=>some (decide (0≤j)&&decide (j.toNat<s.length),.one (.int .u8 ((s.getD j.toNat 0).toNat:Int)))
 |_,_,_=>none
def evConvert(P:Program)(src dst:TypeId)(x:AV):Option (Bool × AV):=
 match P.underlying src,P.underlying dst,x with
 |some _,some (.int k),.one (.int _ n)=>some (true,.one (.int k (k.wrap n)))
 |some _,some .string,.one (.str s)=>some (true,.one (.str s))
 |some _,some (.float k),.one (.int _ n)=>some (true,.one (.flt k (fOf k n)))
 |some _,some (.int k),.one (.flt s b)=>some (fToOk s b k,.one (.int k (fToV s b)))
 |_,_,_=>none
def fillSV(place:Nat→Option (Nat × Nat))(cells:List SV):List (Nat × AV)→Option (List SV)
 |[]=>some cells
 |(i,v)::rest=>
  match place i,v.cells with
  |some (off,size),some l=>if l.length=size∧off+size≤cells.length then fillSV place (cells.take off++l++cells.drop (off+size)) rest else none
  |_,_=>none
def placesT(P:Program)(fs:List Field):List (Option (Nat × Nat)):=fs.map fun f=>(sizeT P f.type).map (f.offset,·)
def evBuild(P:Program)(t:TypeId)(parts:List (Nat × AV)):Option (Bool × AV):=
 match zeroT P t,P.underlying t with
 |some z,some (.struct fs)=>
  if(placesT P fs.toList).all (·.isSome) then(fillSV (fun i=>((placesT P fs.toList)[i]?).getD none) z parts).map fun l=>(true,.agg l) else none
 |some z,some (.array _ e)=>
  match sizeT P e with
  |some sz=>(fillSV (fun i=>some (i*sz,sz)) z parts).map fun l=>(true,.agg l)
  |none=>none
 |_,_=>none
def capIds:List AV→Option (List Nat)
 |[]=>some []
 |.one (.ptr id 1 0 0)::l=>(capIds l).map (id :: ·)
 |_=>none
def evLen(P:Program)(σ:List Blk)(t:TypeId)(x:AV):Option (Bool × AV):=
 match P.underlying t,x with
 |some .string,.one (.str s)=>some (true,.one (.int .i64 s.length))
 |some (.slice _),.one (.str _)=>none
 |some (.slice _),.one s=>(svLen σ s).map fun n=>(true,.one (.int .i64 n))
 |some (.array n _),_=>some (true,.one (.int .i64 n))
 |some (.map _ _),.one (.mapv id)=>match σ[id]? with
  |some (.map _ _ l)=>some (true,.one (.int .i64 l.length))
  |_=>none
 |_,_=>none
def maxInt(k:IntKind):Int→List AV→Option Int
 |x,[]=>some x
 |x,.one (.int k' y)::l=>if k'=k then maxInt k (if y>x then y else x) l else none
 |_,_=>none
def minInt(k:IntKind):Int→List AV→Option Int
 |x,[]=>some x
 |x,.one (.int k' y)::l=>if k'=k then minInt k (if y<x then y else x) l else none
 |_,_=>none
def maxFlt(k:FloatKind):Nat→List AV→Option (Bool × Nat)
 |x,[]=>some (true,x)
 |x,.one (.flt k' y)::l=>if k'=k then(maxFlt k (fMaxV k x y) l).map fun(c,n)=>(fMaxOk k x y&&c,n) else none
 |_,_=>none
def evM(P:Program)(s:St)(o:Op):Option (Bool × AV):=
 match o with
 |.move x|.assign x=>some (true,s.ov x)
 |.pick c a b=>match s.ov c with
  |.one (.bool x)=>match x with
   |true=>some (true,s.ov a)
   |false=>some (true,s.ov b)
  |_=>none
 |.load t a=>
  match s.ov a,sizeT P t with
  |.one p,some n=>match aggT P t with
   |some true=>(loadSVs s.σ p n).map fun(c,l)=>(c,.agg l)
   |some false=>match loadSVs s.σ p 1 with
    |some (c,[v])=>some (c,.one v)
    |_=>none
   |none=>none
  |_,_=>none
 |.nilCheck x=>match s.ov x with
  |.one (.ptr id w i c)=>some (true,.one (.ptr id w i c))
  |.one (.dptr r i c)=>some (true,.one (.dptr r i c))
  |.one (.glb g c)=>some (true,.one (.glb g c))
  |.one (.func f cap)=>some (true,.one (.func f cap))
  |_=>none
 |.binOp op xt x y _=>evBin P op xt (s.ov x) (s.ov y)
 |.unOp op _ x=>evUn op (s.ov x)
 |.convert src dst x=>evConvert P src dst (s.ov x)
 |.makeFunc fn first cap=>match fn with
  |.func f=>if first.toList.isEmpty then(capIds (cap.toList.map s.ov)).map fun ids=>(true,.one (.func f ids)) else none
  |_=>none
 |.slice t x lo hi mx=>match mx with
  |none=>evSlice P s.σ t (s.ov x) (lo.map s.ov) (hi.map s.ov) none
  |some m=>match hi with
   |some h=>evSlice3 P t (s.ov x) (lo.map s.ov) (s.ov h) (s.ov m)
   |none=>none
 |.fieldAddr t x f=>evFieldAddr P t (s.ov x) f
 |.field t x f=>evField P t (s.ov x) f
 |.indexAddr t x ix=>evIndexAddr P s.σ t (s.ov x) (s.ov ix)
 |.index t x ix=>evIndex P t (s.ov x) (s.ov ix)
 |.extract x i=>match s.ov x with
  |.tup l=>(l[i]?).map fun v=>(true,v.av)
  |_=>none
 |.build t parts=>evBuild P t (parts.toList.map fun(i,x)=>(i,s.ov x))
 |.call { callee:= .builtin .len,args,argTypes }=>
  match args.toList,argTypes.toList with
  |[x],t::_=>evLen P s.σ t (s.ov x)
  |_,_=>none
 |.call { callee:= .builtin .max,args,argTypes:=_ }=>
  match args.toList.map s.ov with
  |.one (.int k x)::l=>(maxInt k x l).map fun n=>(true,.one (.int k n))
  |.one (.flt k x)::l=>(maxFlt k x l).map fun(c,n)=>(c,.one (.flt k n))
  |_=>none
 |.call { callee:= .builtin .min,args,argTypes:=_ }=>
  match args.toList.map s.ov with
  |.one (.int k x)::l=>(minInt k x l).map fun n=>(true,.one (.int k n))
  |_=>none
 |_=>none
def movable:Op→Bool
 |.binOp .eql _ _ (.const (.slice none 0 0)) _=>false
 |.binOp .neq _ _ (.const (.slice none 0 0)) _=>false
 |.binOp .eql _ _ (.const .nilIface) _=>false
 |.binOp .neq _ _ (.const .nilIface) _=>false
 |.move _|.assign _|.pick .. | .load .. | .nilCheck _|.binOp .. | .unOp .. | .makeFunc .. | .slice .. | .fieldAddr .. | .field .. | .indexAddr .. | .index .. | .extract .. | .build .. => true
 |.call { callee:= .builtin .len,.. }|.call { callee:= .builtin .max,.. }|.call { callee:= .builtin .min,.. }=>true
 |_=>false
def cksT(P:Program):(fuel:Nat)→TypeId→Option (List CK)
 |0,_=>none
 |f+1,t=>
  match P.underlying t with
  |some (.int k)=>some [.int k]
  |some .bool=>some [.bool]
  |some .string=>some [.str]
  |some (.slice e)=>match P.underlying e with
   |some (.int k)=>some [.sints k]
   |_=>match cksT P f e with
    |some (.int k::l)=>if !l.isEmpty&&l.all (· == .int k) then some [.smat k (l.length+1)] else none
    |_=>none
  |some (.struct fs)=>fs.toList.foldr (fun x acc=>match cksT P f x.type,acc with|some l,some k=>some (l++k)|_,_=>none) (some [])
  |some (.array n e)=>(cksT P f e).map fun l=>(List.replicate n l).flatten
  |_=>none
inductive RKind where
 |ints (k:IntKind)
 |mat (k:IntKind) (w:Nat)
 |recs (cks:List CK)
 |cells
def rkind(P:Program)(e:TypeId):RKind:=
 match cksT P 6 e with
 |some [.int k]=> .ints k
 |some (.int k::l)=>if l.all (· == .int k) then .mat k (l.length+1) else .recs (.int k::l)
 |some (c::l)=> .recs (c::l)
 |_=> .cells
def toD:CK→SV→Option D
 |.int k,.int k' n=>if k'=k then some (.int n) else none
 |.bool,.bool b=>some (.bool b)
 |.str,.str s=>some (.str s)
 |.sints _,.nil=>some (.ints [])
 |.sints k,.data (.ints k' xs)=>if k'=k then some (.ints xs) else none
 |.smat _ _,.nil=>some (.mat [])
 |.smat k w,.data (.mat k' w' xss)=>if k'=k∧w'=w then some (.mat xss) else none
 |_,_=>none
def toDs:List CK→List SV→Option (List D)
 |[],[]=>some []
 |c::cs,s::ss=>match toD c s,toDs cs ss with
  |some d,some ds=>some (d::ds)
  |_,_=>none
 |_,_=>none
def mapOpt{α β:Type}(f:α→Option β):List α→Option (List β)
 |[]=>some []
 |a::l=>match f a,mapOpt f l with
  |some b,some k=>some (b::k)
  |_,_=>none
def rowOf(P:Program)(e:TypeId)(els:List (List SV))(cel:Bool:=false):Option Blk:=
 match cel with
 |true=>some (.cells els.flatten)
 |false=>match rkind P e with
 |.ints k=>(asInts k els.flatten).map fun xs=> .row e (.ints k xs)
 |.mat k w=>if els.all (·.length==w) then(mapOpt (asInts k) els).map fun xss=> .row e (.mat k w xss) else none
 |.recs cks=>if els.all (·.length==cks.length) then(mapOpt (toDs cks) els).map fun xss=> .row e (.recs cks xss) else none
 |.cells=>some (.cells els.flatten)
def Blk.width:Blk→Nat
 |.row _ r=>r.width
 |_=>1
def newBlk(P:Program)(t:TypeId)(l:List SV):Blk:=
 match P.underlying t with
 |some (.array _ _)=>match kindOf l with
  |some k=>match asInts k l with
   |some xs=> .row t (.ints k xs)
   |none=> .cells l
  |none=> .cells l
 |_=> .cells l
def viewRow(P:Program)(σ:List Blk)(e:TypeId):SV→Option (Bool × Row)
 |.nil=>match rkind P e with
  |.ints k=>some (true,.ints k [])
  |.mat k w=>some (true,.mat k w [])
  |.recs cks=>some (true,.recs cks [])
  |.cells=>none
 |.data r=>some (true,r)
 |.own id wd=>match σ[id]? with
  |some (.row _ r)=>if wd=r.width then some (true,r) else none
  |_=>none
 |.sub id wd i n=>match σ[id]? with
  |some (.row _ r)=>if wd=r.width then some (decide (i+n≤r.count),r.part i n) else none
  |some (.cells l)=>if wd=1 then(if i+n≤l.length then(match kindOf ((l.drop i).take n) with|some k=>(asInts k ((l.drop i).take n)).map fun xs=>(true,.ints k xs)|none=>none) else none) else none
  |_=>none
 |_=>none
def Row.app:Row→Row→Option Row
 |.ints k xs,.ints k' ys=>if k'=k then some (.ints k (xs++ys)) else none
 |.mat k w xs,.mat k' w' ys=>if k'=k∧w'=w then some (.mat k w (xs++ys)) else none
 |.recs c xs,.recs c' ys=>if c'=c then some (.recs c (xs++ys)) else none
 |_,_=>none
end Go.Ev
