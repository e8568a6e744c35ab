/-
  Part of the proof that TopClickOnly holds.
-/
import Derived.Test.YtgkngjjnpiheoaaT14
import Derived.Test.YtgkngjjnpiheoaaProg
set_option linter.unusedVariables false
set_option linter.unusedSimpArgs false
set_option linter.unusedSectionVars false
namespace Go.Ev
open Go Go.Proofs
set_option maxRecDepth 20000
instance:Glob:=⟨[]⟩
def wi(n:Int):Int:=IntKind.i64.wrap n
def withinG(n lo hi:Int):Bool:=decide (lo≤n)&&decide (n≤hi)
def withinS:Spec:=fun args σ K=>match args,σ with
 |[.one (.int .i64 n),.one (.int .i64 lo),.one (.int .i64 hi)],[]=>K (.one (.bool (withinG n lo hi))) []
 |_,_=>False
def unlessS:Spec:=fun args σ K=>match args,σ with
 |[.one (.bool b),.one (.int .i64 e)],[]=>K (.one (.int .i64 (cond b 0 e))) []
 |_,_=>False
def firstE:List Int→Int
 |[]=>0
 |e::l=>bif e==0 then firstE l else e
def firstS:Spec:=fun args σ K=>match args,σ with
 |[.one (.data (.ints .i64 l))],[]=>l.length≤1000∧K (.one (.int .i64 (firstE l))) []
 |_,_=>False
def firstL:LSpec:=fun vs σ k=>match vs,σ with
 |[.one (.data (.ints .i64 l)),.one (.int .i64 n),.one (.int .i64 i)],[]=>(l.length≤1000∧0≤i∧n=l.length)∧bif firstE (l.drop i.toNat)==0 then k (.exit 0) [.any] [] else k .ret [.one (.int .i64 (firstE (l.drop i.toNat)))] []
 |_,_=>False
def sizeG(n:Int):Int:=if wi (0-n)>n then wi (0-n) else n
def sizeS:Spec:=fun args σ K=>match args,σ with
 |[.one (.int .i64 a)],[]=>K (.one (.int .i64 (sizeG a))) []
 |_,_=>False
def sampleG(n:Int):Bool:=withinG n (-32767) 32767
def isSizedS:Spec:=fun args σ K=>match args,σ with
 |[.one (.int .i64 n),.one (.int .i64 m)],[]=>(0≤m∧m≤1000000000)∧K (.one (.bool (withinG n (-m) m))) []
 |_,_=>False
def sampleS:Spec:=fun args σ K=>match args,σ with
 |[.one (.int .i64 n)],[]=>K (.one (.bool (sampleG n))) []
 |_,_=>False
def loudS:Spec:=fun args σ K=>match args,σ with
 |[.one (.int .i64 n)],[]=>K (.one (.bool (!sampleG n))) []
 |_,_=>False
def greatG(n:Int):Bool:=withinG n (-65534) 65534
def greatS:Spec:=fun args σ K=>match args,σ with
 |[.one (.int .i64 n)],[]=>K (.one (.bool (!greatG n))) []
 |_,_=>False
def allL(p:Int→Bool):LSpec:=fun vs σ k=>match vs,σ with
 |[.one (.data (.ints .i64 l)),.one (.int .i64 i)],[]=>(l.length≤1000000∧0≤i)∧bif (l.drop i.toNat).all p then k (.exit 0) [.any] [] else k .ret [.one (.bool false)] []
 |_,_=>False
def samplesL:LSpec:=fun vs σ k=>match vs,σ with
 |[.one (.data (.ints .i64 l)),.one (.int .i64 i)],[]=>(l.length≤1000000∧0≤i)∧bif (l.drop i.toNat).all sampleG then k (.exit 0) [.any] [] else k .ret [.one (.bool false)] []
 |_,_=>False
def samplesS:Spec:=fun args σ K=>match args,σ with
 |[.one (.data (.ints .i64 l))],[]=>l.length≤1000000∧K (.one (.bool (l.all sampleG))) []
 |_,_=>False
def idxLoudL:LSpec:=fun vs σ k=>match vs,σ with
 |[.one (.data (.ints .i64 l)),.one (.func 39 []),.one (.int .i64 n),.one (.int .i64 i)],[]=>(l.length≤1000000∧0≤i∧n=l.length)∧bif (l.drop i.toNat).all sampleG then k (.exit 0) [.any] [] else ∀j,0≤j→k .ret [.one (.int .i64 j)] []
 |_,_=>False
def idxGreatL:LSpec:=fun vs σ k=>match vs,σ with
 |[.one (.data (.ints .i64 l)),.one (.func 46 []),.one (.int .i64 n),.one (.int .i64 i)],[]=>(l.length≤1000000∧0≤i∧n=l.length)∧bif (l.drop i.toNat).all greatG then k (.exit 0) [.any] [] else ∀j,0≤j→k .ret [.one (.int .i64 j)] []
 |_,_=>False
def idxLoudS:Spec:=fun args σ K=>match args,σ with
 |[.one (.data (.ints .i64 l)),.one (.func 39 [])],[]=>l.length≤1000000∧bif l.all sampleG then K (.one (.int .i64 (-1))) [] else ∀j,0≤j→K (.one (.int .i64 j)) []
 |_,_=>False
def idxGreatS:Spec:=fun args σ K=>match args,σ with
 |[.one (.data (.ints .i64 l)),.one (.func 46 [])],[]=>l.length≤1000000∧bif l.all greatG then K (.one (.int .i64 (-1))) [] else ∀j,0≤j→K (.one (.int .i64 j)) []
 |_,_=>False
def hasLoudS:Spec:=fun args σ K=>match args,σ with
 |[.one (.data (.ints .i64 l)),.one (.func 39 [])],[]=>l.length≤1000000∧K (.one (.bool (!l.all sampleG))) []
 |_,_=>False
def hasGreatS:Spec:=fun args σ K=>match args,σ with
 |[.one (.data (.ints .i64 l)),.one (.func 46 [])],[]=>l.length≤1000000∧K (.one (.bool (!l.all greatG))) []
 |_,_=>False
def errE(l:List Int):Int:=bif decide ((l.length:Int)≤200) then(bif l.all sampleG then 0 else 2) else 8
def errS:Spec:=fun args σ K=>match args,σ with
 |[.one (.data (.ints .i64 l))],[]=>l.length≤1000000∧K (.one (.int .i64 (errE l))) []
 |_,_=>False
def periodS:Spec:=fun args σ K=>match args,σ with
 |[.one (.int .i64 n)],[]=>K (.one (.bool (withinG n 1 64))) []
 |_,_=>False
def humE(p h:Int)(t:List Int):Int:=bif withinG p 1 64&&withinG h 0 (p-1) then(bif (t.length:Int)==p then(bif t.all greatG then 0 else 2) else 10) else 2
def checkHumS:Spec:=fun args σ K=>match args,σ with
 |[.agg [.int .i64 p,.int .i64 hh,.data (.ints .i64 t)]],[]=>t.length≤1000000∧K (.one (.int .i64 (humE p hh t))) []
 |_,_=>False
def humErrL:LSpec:=fun vs σ k=>match vs,σ with
 |[.one (.ptr 0 1 0 0),.one (.int .i64 i)],[.cells [.int .i64 p,.int .i64 hh,.data (.ints .i64 t)]]=>(t.length≤1000000∧0≤i)∧bif (t.drop i.toNat).all greatG then k (.exit 0) [.any] [] else k .ret [.one (.int .i64 2)] []
 |_,_=>False
def humErrS:Spec:=fun args σ K=>match args,σ with
 |[.agg [.int .i64 p,.int .i64 hh,.data (.ints .i64 t)]],[]=>t.length≤1000000∧K (.one (.int .i64 (humE p hh t))) []
 |_,_=>False
def intsL:LSpec:=fun vs σ k=>match vs,σ with
 |[.one (.data (.ints .i64 a)),.one (.data (.ints .i64 b)),.one (.int .i64 i)],[]=>(a.length≤1000000∧a.length=b.length∧0≤i)∧bif a.drop i.toNat==b.drop i.toNat then k (.exit 0) [.any] [] else k .ret [.one (.bool false)] []
 |_,_=>False
def intsS:Spec:=fun args σ K=>match args,σ with
 |[.one (.data (.ints .i64 a)),.one (.data (.ints .i64 b))],[]=>a.length≤1000000∧K (.one (.bool (a==b))) []
 |_,_=>False
noncomputable abbrev Ewib:Env:=envOf Try.prog [] [] 15 0
noncomputable abbrev Ewic:Env:=envOf Try.prog [] [] 15 0
noncomputable abbrev Eunl:Env:=envOf Try.prog [] [] 7 0
noncomputable abbrev Efst:Env:=envOf Try.prog [] [(2,.spec [5,6,7] [2] firstL)] 15 0
noncomputable abbrev Eszb:Env:=envOf Try.prog [] [] 7 0
noncomputable abbrev Eszc:Env:=envOf Try.prog [] [] 7 0
noncomputable abbrev Esiz:Env:=envOf Try.prog [(41,withinS)] [] 10 0
noncomputable abbrev Esmp:Env:=envOf Try.prog [(5,withinS)] [] 5 0
noncomputable abbrev Esms:Env:=envOf Try.prog [(21,sampleS)] [(2,.spec [0,3] [2] samplesL)] 16 0
noncomputable abbrev Elou:Env:=envOf Try.prog [(32,isSizedS)] [] 6 0
noncomputable abbrev Egre:Env:=envOf Try.prog [(32,isSizedS)] [] 6 0
noncomputable abbrev Eixl:Env:=envOf Try.prog [(39,loudS)] [(2,.spec [0,1,7,8] [4] idxLoudL)] 19 0
noncomputable abbrev Eixg:Env:=envOf Try.prog [(46,greatS)] [(2,.spec [0,1,7,8] [4] idxGreatL)] 19 0
noncomputable abbrev Ehal:Env:=envOf Try.prog [(50,idxLoudS)] [] 9 0
noncomputable abbrev Ehag:Env:=envOf Try.prog [(53,idxGreatS)] [] 9 0
noncomputable abbrev Eerr:Env:=envOf Try.prog [(38,hasLoudS),(39,loudS),(24,unlessS),(23,firstS)] [] 15 0
noncomputable abbrev Eper:Env:=envOf Try.prog [(41,withinS)] [] 5 0
noncomputable abbrev Echh:Env:=envOf Try.prog [(45,hasGreatS),(46,greatS),(47,periodS),(41,withinS),(24,unlessS),(23,firstS)] [] 31 0
noncomputable abbrev Ehue:Env:=envOf Try.prog [(5,withinS)] [(6,.spec [1,3] [2] humErrL)] 37 0
noncomputable abbrev Eints:Env:=envOf Try.prog [] [(4,.spec [0,1,5] [4] intsL)] 26 0
end Go.Ev
namespace Go.Ev
open Go
variable [Glob]
def frzS(σ:List Blk):SV→SV→Prop
 |.own id wd,s'=> ∃t r,σ[id]? = some (.row t r)∧wd=r.width∧s'= .data r
 |.sub id wd i n,s'=> ∃t r,σ[id]? = some (.row t r)∧wd=r.width∧i+n≤r.count∧s'= .data (r.part i n)
 |.nil,s'=>s'= .nil∨ ∃r,r.count=0∧s'= .data r
 |.data r,s'=>s'= .data r
 |.int k n,s'=>s'= .int k n
 |.bool b,s'=>s'= .bool b
 |.str s,s'=>s'= .str s
 |.flt k b,s'=>s'= .flt k b
 |_,_=>False
def frzT(σ:List Blk):TV→TV→Prop
 |.one s,.one s'=>frzS σ s s'
 |.agg l,.agg l'=>All2 (frzS σ) l l'
 |_,_=>False
def frzA(σ:List Blk):AV→AV→Prop
 |.one s,.one s'=>frzS σ s s'
 |.agg l,.agg l'=>All2 (frzS σ) l l'
 |.tup l,.tup l'=>All2 (frzT σ) l l'
 |_,_=>False
section
variable {F:Nat→Prop} {ρ:List (Nat × Nat)} {σ:List Blk} {w:World}
theorem lmut_nil{b:Nat}(h:LMut [] [] b):False:=by
 obtain⟨id,c,n,g,h1,_⟩:=h
 simp at h1
theorem frzS_den(H:HeapOk F ρ σ w)(ap: ∀g,LMut ρ σ g→¬F g){s s':SV}{u:Value}(h:frzS σ s s')(hd:DenS w (Mut F ρ σ) ρ s u):DenS w (Mut F [] []) [] s' u:=by
 have hmm: ∀b,Mut F [] [] b→Mut F ρ σ b:=fun b hb=>hb.elim .inl fun hb=>(lmut_nil hb).elim
 cases s with
 |own id wd=>
  obtain⟨t,r,h1,h2,rfl⟩:=h
  obtain⟨a,cap,e1,e2,e3,e4⟩:=viewRow_sound (P:=default) (e:=0) H (r:=r) (s:= .own id wd) (by simp only[viewRow,h1];rw[if_pos h2]) hd
  refine⟨a,cap,e1,e2,e3,e4.imp_right ?_⟩
  rintro ⟨ad,h5,h6,h7,h8⟩
  refine⟨ad,h5,h7,fun hm=> ?_,h6.keep (Keep.same fun b _ hb=>hmm b hb)⟩
  obtain⟨i,n,hi,hρ⟩:=h8 (hmm _ hm)
  simp only[idsS,List.mem_singleton] at hi
  subst hi
  exact ap _ (LMut.solid h1 rfl hρ) (hm.resolve_right lmut_nil)
 |sub id wd i n=>
  obtain⟨t,r,h1,h2,h3,rfl⟩:=h
  obtain⟨a,cap,e1,e2,e3,e4⟩:=viewRow_sound (P:=default) (e:=0) H (r:=r.part i n) (s:= .sub id wd i n) (by simp only[viewRow,h1];rw[if_pos h2,decide_eq_true h3]) hd
  refine⟨a,cap,e1,e2,e3,e4.imp_right ?_⟩
  rintro ⟨ad,h5,h6,h7,h8⟩
  refine⟨ad,h5,h7,fun hm=> ?_,h6.keep (Keep.same fun b _ hb=>hmm b hb)⟩
  obtain⟨i',n',hi,hρ⟩:=h8 (hmm _ hm)
  simp only[idsS,List.mem_singleton] at hi
  subst hi
  exact ap _ (LMut.solid h1 rfl hρ) (hm.resolve_right lmut_nil)
 |nil=>
  rcases h with rfl|⟨r,hr,rfl⟩
  ·exact hd
  ·exact⟨none,0,by rw[hr];exact hd,by omega,Nat.zero_le _,.inl hr⟩
 |data r=>
  cases h
  obtain⟨a,cap,e1,e2,e3,e4⟩:=hd
  refine⟨a,cap,e1,e2,e3,e4.imp_right ?_⟩
  rintro ⟨ad,h5,h6,h7,h8⟩
  exact⟨ad,h5,h6,fun hm=>h7 (hmm _ hm),h8.keep (Keep.same fun b _ hb=>hmm b hb)⟩
 |int k n=>cases h;exact hd
 |bool b=>cases h;exact hd
 |str s=>cases h;exact hd
 |flt k b=>cases h;exact hd
 |_=>exact h.elim
theorem All2.frz{α β γ:Type}{R:α→β→Prop}{S:α→γ→Prop}{T:γ→β→Prop}(H: ∀a c b,S a c→R a b→T c b): ∀{l:List α} {m:List γ} {k:List β},All2 S l m→All2 R l k→All2 T m k
 |[],[],[],_,_=>trivial
 |[],[],_::_,_,h=>h.elim
 |[],_::_,_,h,_=>h.elim
 |_::_,[],_,h,_=>h.elim
 |_::_,_::_,[],_,h=>h.elim
 |_::_,_::_,_::_,h,h'=>⟨H _ _ _ h.1 h'.1,All2.frz H h.2 h'.2⟩
theorem frzA_den(H:HeapOk F ρ σ w)(ap: ∀g,LMut ρ σ g→¬F g){a a':AV}{u:Value}(h:frzA σ a a')(hd:Den w (Mut F ρ σ) ρ a u):Den w (Mut F [] []) [] a' u:=by
 have hS: ∀a c b,frzS σ a c→DenS w (Mut F ρ σ) ρ a b→DenS w (Mut F [] []) [] c b:=fun a c b h hd=>frzS_den H ap h hd
 have hT: ∀a c b,frzT σ a c→DenT w (Mut F ρ σ) ρ a b→DenT w (Mut F [] []) [] c b:=by
  intro a c b h hd
  cases a with
  |one s=>cases c with
   |one s'=>exact hS _ _ _ h hd
   |agg l=>exact h.elim
  |agg l=>cases c with
   |one s'=>exact h.elim
   |agg l'=>
    obtain⟨vs,e,hl⟩:=hd
    exact⟨vs,e,All2.frz hS h hl⟩
 cases a with
 |any=>exact h.elim
 |one s=>cases a' with
  |one s'=>exact hS _ _ _ h hd
  |_=>exact h.elim
 |agg l=>cases a' with
  |agg l'=>
   obtain⟨vs,e,hl⟩:=hd
   exact⟨vs,e,All2.frz hS h hl⟩
  |_=>exact h.elim
 |tup l=>cases a' with
  |tup l'=>
   obtain⟨vs,e,hl⟩:=hd
   exact⟨vs,e,All2.frz hT h hl⟩
  |_=>exact h.elim
end
theorem SpecOK.froze {P : Program} {f : FuncId} {S S1 : Spec} (h1 : SpecOK P f S1) (h : ∀ args σ K, S args σ K → σ = [] ∧ S1 args [] fun a σ' => ∃ a', frzA σ' a a' ∧ K a' []) : SpecOK P f S := by
  refine ⟨h1.body, fun args σ K hK F ρ vals w H hF ha => ?_⟩
  obtain ⟨rfl, hS⟩ := h args σ K hK
  have hρ : ρ = [] := List.length_eq_zero_iff.1 H.len
  subst hρ
  refine (h1.sound args [] _ hS F [] vals w H hF ha).mono ?_
  rintro e w' ⟨v, a, σ', ρ', h2, ⟨a', h3, h4⟩, I, hk, hd⟩
  have hmm : ∀ b, Mut F [] [] b → Mut F ρ' σ' b := fun b hb => hb.elim .inl fun hb => (lmut_nil hb).elim
  refine ⟨v, a', [], [], h2, h4, ?_, ⟨hk.size, hk.blk, fun _ _ h => h, hk.shape⟩, frzA_den I.heap I.apart h3 hd⟩
  exact { heap := ⟨rfl, fun id b g n h => by simp at h, fun id b g n k h => by simp at h, fun i j b b' g g' n n' k h => by simp at h, I.heap.glob.keep (Keep.same fun b _ hb => hmm b hb)⟩,pre := ⟨[], rfl⟩, os := I.os, tape := I.tape, output := I.output, size := I.size, blk := I.blk, shape := I.shape, fresh := fun g hg => (lmut_nil hg).elim, foreign := I.foreign, apart := fun g hg => (lmut_nil hg).elim }
end Go.Ev
namespace Go.Ev
open Go Go.Proofs
set_option maxRecDepth 20000
def copyIntsS:Spec:=fun args σ K=>match args,σ with
 |[.one (.data (.ints .i64 l))],[]=>l.length≤1000000∧K (.one (.own 0 1)) [.row 3 (.ints .i64 l)]
 |_,_=>False
def cloneS:Spec:=fun args σ K=>match args,σ with
 |[.one (.data (.ints .i64 l))],[]=>(l.length≤1000000∧1≤l.length)∧K (.one (.own 0 1)) [.row 3 (.ints .i64 l)]
 |_,_=>False
def copyHumS:Spec:=fun args σ K=>match args,σ with
 |[.agg [.int .i64 p,.int .i64 hh,.data (.ints .i64 t)]],[]=>t.length≤1000000∧K (.agg [.int .i64 p,.int .i64 hh,.own 0 1]) [.row 3 (.ints .i64 t)]
 |_,_=>False
def humV(p hh:Int)(t:List Int)(i:Int):Int:=t.getD ((i+hh).tmod p).toNat 0
def cmbF(p hh:Int)(t:List Int)(tm:Int):Int→List Int→List Int
 |_,[]=>[]
 |i,n::l=>(n+tm*humV p hh t i)::cmbF p hh t tm (i+1) l
def cmbI(p hh:Int)(t:List Int)(tm n:Int)(x:List Int)(i:Int):Prop:= (tm=1∨tm= -1)∧n=x.length∧x.length≤200∧x.all sampleG=true∧1≤p∧p≤64∧0≤hh∧hh<p∧(t.length:Int)=p∧t.all greatG=true∧0≤i∧i≤n
def cmbL:LSpec:=fun vs σ k=>match vs,σ with
 |[.one (.int .i64 tm),.one (.ptr 0 1 0 0),.one .nil,.one (.data (.ints .i64 x)),.one (.int .i64 n),.one (.int .i64 i)],[.cells [.int .i64 p,.int .i64 hh,.data (.ints .i64 t)]]=>(cmbI p hh t tm n x i∧i=0)∧
  bif (cmbF p hh t tm i (x.drop i.toNat)).all sampleG then(bif x.isEmpty then k (.exit 0) [.any,.any,.one .nil] [] else k (.exit 0) [.any,.any,.one (.own 0 1)] [.row 3 (.ints .i64 (cmbF p hh t tm i (x.drop i.toNat)))])
  else ∀v σ',k .ret [.one .nil,.one (.int .i64 23),v] σ'
 |[.one (.int .i64 tm),.one (.ptr 0 1 0 0),.one (.own 1 1),.one (.data (.ints .i64 x)),.one (.int .i64 n),.one (.int .i64 i)],[.cells [.int .i64 p,.int .i64 hh,.data (.ints .i64 t)],.row 3 (.ints .i64 out)]=>(cmbI p hh t tm n x i∧(out.length:Int)=i∧1≤i)∧
  bif (cmbF p hh t tm i (x.drop i.toNat)).all sampleG then k (.exit 0) [.any,.any,.one (.own 0 1)] [.row 3 (.ints .i64 (out++cmbF p hh t tm i (x.drop i.toNat)))]
  else ∀v σ',k .ret [.one .nil,.one (.int .i64 23),v] σ'
 |_,_=>False
def cmbE(p hh:Int)(t:List Int)(tm:Int)(x:List Int):Int:=bif firstE [humE p hh t,errE x]==0 then(bif (cmbF p hh t tm 0 x).all sampleG then 0 else 23) else firstE [humE p hh t,errE x]
def cmbS:Spec:=fun args σ K=>match args,σ with
 |[.agg [.int .i64 p,.int .i64 hh,.data (.ints .i64 t)],.one (.data (.ints .i64 x)),.one (.int .i64 tm)],[]=>(t.length≤1000000∧x.length≤1000000∧(tm=1∨tm= -1))∧
  bif cmbE p hh t tm x==0 then(bif x.isEmpty then K (.tup [.one .nil,.one (.int .i64 0)]) [] else K (.tup [.one (.own 0 1),.one (.int .i64 0)]) [.row 3 (.ints .i64 (cmbF p hh t tm 0 x))])
  else K (.tup [.one .nil,.one (.int .i64 (cmbE p hh t tm x))]) []
 |_,_=>False
def addS(tm:Int):Spec:=fun args σ K=>match args,σ with
 |[.agg [.int .i64 p,.int .i64 hh,.data (.ints .i64 t)],.one (.data (.ints .i64 x))],[]=>(t.length≤1000000∧x.length≤1000000)∧
  bif cmbE p hh t tm x==0 then(bif x.isEmpty then K (.tup [.one .nil,.one (.int .i64 0)]) [] else K (.tup [.one (.own 0 1),.one (.int .i64 0)]) [.row 3 (.ints .i64 (cmbF p hh t tm 0 x))])
  else K (.tup [.one .nil,.one (.int .i64 (cmbE p hh t tm x))]) []
 |_,_=>False
def addedS:Spec:=fun args σ K=>match args,σ with
 |[.agg [.int .i64 p,.int .i64 hh,.data (.ints .i64 t)],.one (.data (.ints .i64 x))],[]=>(t.length≤1000000∧x.length≤1000000)∧
  bif cmbE p hh t 1 x==0 then(bif x.isEmpty then K (.tup [.one .nil,.one (.int .i64 0)]) [] else K (.tup [.one (.own 0 1),.one (.int .i64 0)]) [.row 3 (.ints .i64 (cmbF p hh t 1 0 x))])
  else K (.tup [.one .nil,.one (.int .i64 (cmbE p hh t 1 x))]) []
 |_,_=>False
def removedS:Spec:=fun args σ K=>match args,σ with
 |[.agg [.int .i64 p,.int .i64 hh,.data (.ints .i64 t)],.one (.data (.ints .i64 x))],[]=>(t.length≤1000000∧x.length≤1000000)∧
  bif cmbE p hh t (-1) x==0 then(bif x.isEmpty then K (.tup [.one .nil,.one (.int .i64 0)]) [] else K (.tup [.one (.own 0 1),.one (.int .i64 0)]) [.row 3 (.ints .i64 (cmbF p hh t (-1) 0 x))])
  else K (.tup [.one .nil,.one (.int .i64 (cmbE p hh t (-1) x))]) []
 |_,_=>False
def cmbR(p hh:Int)(t:List Int)(tm:Int)(x:List Int):List Int:=bif cmbE p hh t tm x==0 then cmbF p hh t tm 0 x else[]
def addedDS:Spec:=fun args σ K=>match args,σ with
 |[.agg [.int .i64 p,.int .i64 hh,.data (.ints .i64 t)],.one (.data (.ints .i64 x))],[]=>(t.length≤1000000∧x.length≤1000000)∧K (.tup [.one (.data (.ints .i64 (cmbR p hh t 1 x))),.one (.int .i64 (cmbE p hh t 1 x))]) []
 |_,_=>False
def removedDS:Spec:=fun args σ K=>match args,σ with
 |[.agg [.int .i64 p,.int .i64 hh,.data (.ints .i64 t)],.one (.data (.ints .i64 x))],[]=>(t.length≤1000000∧x.length≤1000000)∧K (.tup [.one (.data (.ints .i64 (cmbR p hh t (-1) x))),.one (.int .i64 (cmbE p hh t (-1) x))]) []
 |_,_=>False
def difA:Int→List Int→List Int→List Int
 |i,a::l,b::m=>bif a != b then i::difA (i+1) l m else difA (i+1) l m
 |_,_,_=>[]
def touL:LSpec:=fun vs σ k=>match vs,σ with
 |[.one (.data (.ints .i64 x)),.one (.data (.ints .i64 y)),.one .nil,.one (.int .i64 n),.one (.int .i64 i)],[]=>(n=x.length∧x.length=y.length∧x.length≤200∧0≤i∧i≤n)∧
  bif (difA i (x.drop i.toNat) (y.drop i.toNat)).isEmpty then k (.exit 0) [.one .nil] [] else k (.exit 0) [.one (.own 0 1)] [.row 3 (.ints .i64 (difA i (x.drop i.toNat) (y.drop i.toNat)))]
 |[.one (.data (.ints .i64 x)),.one (.data (.ints .i64 y)),.one (.own 0 1),.one (.int .i64 n),.one (.int .i64 i)],[.row 3 (.ints .i64 out)]=>(n=x.length∧x.length=y.length∧x.length≤200∧0≤i∧i≤n∧out.length≤i.toNat)∧
  k (.exit 0) [.one (.own 0 1)] [.row 3 (.ints .i64 (out++difA i (x.drop i.toNat) (y.drop i.toNat)))]
 |_,_=>False
def touE(x y:List Int):Int:=firstE [errE x,errE y,bif (x.length:Int)==(y.length:Int) then 0 else 10]
def touS:Spec:=fun args σ K=>match args,σ with
 |[.one (.data (.ints .i64 x)),.one (.data (.ints .i64 y))],[]=>(x.length≤1000000∧y.length≤1000000)∧
  bif touE x y==0 then(bif (difA 0 x y).isEmpty then K (.tup [.one .nil,.one (.int .i64 0)]) [] else K (.tup [.one (.own 0 1),.one (.int .i64 0)]) [.row 3 (.ints .i64 (difA 0 x y))])
  else K (.tup [.one .nil,.one (.int .i64 (touE x y))]) []
 |_,_=>False
def touR(x y:List Int):List Int:=bif touE x y==0 then difA 0 x y else[]
def touDS:Spec:=fun args σ K=>match args,σ with
 |[.one (.data (.ints .i64 x)),.one (.data (.ints .i64 y))],[]=>(x.length≤1000000∧y.length≤1000000)∧K (.tup [.one (.data (.ints .i64 (touR x y))),.one (.int .i64 (touE x y))]) []
 |_,_=>False
noncomputable abbrev Ecpi:Env:=envOf Try.prog [] [] 6 0
noncomputable abbrev Ecln:Env:=envOf Try.prog [] [] 8 0
noncomputable abbrev Ecph:Env:=envOf Try.prog [(10,copyIntsS)] [] 11 0
noncomputable abbrev Ecmb:Env:=envOf Try.prog [(31,checkHumS),(28,errS),(23,firstS),(32,isSizedS)] [(6,.spec [2,3,9,21,22,23] [6,7,9] cmbL)] 52 0
noncomputable abbrev Eadd:Env:=envOf Try.prog [(20,cmbS)] [] 11 0
noncomputable abbrev Erem:Env:=envOf Try.prog [(20,cmbS)] [] 11 0
noncomputable abbrev Etou:Env:=envOf Try.prog [(28,errS),(24,unlessS),(23,firstS)] [(6,.spec [0,1,7,25,26] [7] touL)] 44 0
end Go.Ev
namespace Go.Ev
open Go Go.Proofs
set_option maxRecDepth 20000
def okR(kd w th jo mo pe:Int):Prop:=(kd=0∧w=1∧th=5∧jo=2∧mo=4∧pe=50)∨(kd=1∧w=0∧th=800∧jo=2∧mo=8∧pe=100)
def rulesS:Spec:=fun args σ K=>match args,σ with
 |[.agg [.int .i64 kd,.int .i64 w,.int .i64 th,.int .i64 jo,.int .i64 mo,.int .i64 pe]],[]=>okR kd w th jo mo pe∧K (.one (.int .i64 0)) []
 |_,_=>False
def theRulesS:Spec:=fun args σ K=>match args,σ with
 |[],[]=>K (.agg [.int .i64 0,.int .i64 1,.int .i64 5,.int .i64 2,.int .i64 4,.int .i64 50]) []
 |_,_=>False
def detectorS:Spec:=fun args σ K=>match args,σ with
 |[.agg [.int .i64 kd,.int .i64 w,.int .i64 th,.int .i64 jo,.int .i64 mo,.int .i64 pe]],[]=>bif kd==0 then K (.one (.ifv 100 [w])) [] else K (.one (.ifv 102 [])) []
 |_,_=>False
def curveG(x:List Int)(i:Int):Int:=bif withinG i 1 ((x.length:Int)-2) then x.getD (i-1).toNat 0-2*x.getD i.toNat 0+x.getD (i+1).toNat 0 else 0
def okX(x:List Int):Prop:=x.length≤200∧x.all sampleG=true
def curveS:Spec:=fun args σ K=>match args,σ with
 |[.one (.data (.ints .i64 x)),.one (.int .i64 i)],[]=>(okX x∧0≤i∧i≤1000)∧K (.one (.int .i64 (curveG x i))) []
 |_,_=>False
def curvesS:Spec:=fun args σ K=>match args,σ with
 |[.agg [],.one (.data (.ints .i64 x)),.one (.int .i64 i)],[]=>(okX x∧0≤i∧i≤1000)∧K (.one (.int .i64 (sizeG (curveG x i)))) []
 |_,_=>False
def nanS:Spec:=fun args σ K=>match args,σ with
 |[.one (.int .i64 a)],[]=>K (.one (.bool false)) []
 |_,_=>False
def lessS:Spec:=fun args σ K=>match args,σ with
 |[.one (.int .i64 a),.one (.int .i64 b)],[]=>K (.one (.bool (decide (a<b)))) []
 |_,_=>False
def lenS:Spec:=fun args σ K=>match args,σ with
 |[.one (.int .u64 n)],[]=>(n=2∨n=3)∧ ∀r,K (.one (.int .i64 r)) []
 |_,_=>False
def insJ(l:List Int):Nat→List Int
 |0=>l
 |j+1=>bif decide (l.getD (j+1) 0<l.getD j 0) then insJ ((l.set (j+1) (l.getD j 0)).set j (l.getD (j+1) 0)) j else l
def insA(l:List Int)(i:Nat):Nat→List Int
 |0=>l
 |c+1=>insA (insJ l i) (i+1) c
def isG(l:List Int):List Int:=insA l 1 (l.length-1)
def insS:Spec:=fun args σ K=>match args,σ with
 |[.one (.own 0 1),.one (.int .i64 a),.one (.int .i64 b)],[.cells [.int .i64 x,.int .i64 y]]=>(a=0∧b=2)∧K (.tup []) [.cells [.int .i64 ((isG [x,y]).getD 0 0),.int .i64 ((isG [x,y]).getD 1 0)]]
 |[.one (.own 0 1),.one (.int .i64 a),.one (.int .i64 b)],[.cells [.int .i64 x,.int .i64 y,.int .i64 z]]=>(a=0∧b=3)∧K (.tup []) [.cells [.int .i64 ((isG [x,y,z]).getD 0 0),.int .i64 ((isG [x,y,z]).getD 1 0),.int .i64 ((isG [x,y,z]).getD 2 0)]]
 |_,_=>False
def pdqS:Spec:=fun args σ K=>match args,σ with
 |[.one (.own 0 1),.one (.int .i64 a),.one (.int .i64 b),.one (.int .i64 lim)],[.cells [.int .i64 x,.int .i64 y]]=>(a=0∧b=2)∧K (.tup []) [.cells [.int .i64 ((isG [x,y]).getD 0 0),.int .i64 ((isG [x,y]).getD 1 0)]]
 |[.one (.own 0 1),.one (.int .i64 a),.one (.int .i64 b),.one (.int .i64 lim)],[.cells [.int .i64 x,.int .i64 y,.int .i64 z]]=>(a=0∧b=3)∧K (.tup []) [.cells [.int .i64 ((isG [x,y,z]).getD 0 0),.int .i64 ((isG [x,y,z]).getD 1 0),.int .i64 ((isG [x,y,z]).getD 2 0)]]
 |_,_=>False
def sortS:Spec:=fun args σ K=>match args,σ with
 |[.one (.own 0 1)],[.cells [.int .i64 x,.int .i64 y]]=>K (.tup []) [.cells [.int .i64 ((isG [x,y]).getD 0 0),.int .i64 ((isG [x,y]).getD 1 0)]]
 |[.one (.own 0 1)],[.cells [.int .i64 x,.int .i64 y,.int .i64 z]]=>K (.tup []) [.cells [.int .i64 ((isG [x,y,z]).getD 0 0),.int .i64 ((isG [x,y,z]).getD 1 0),.int .i64 ((isG [x,y,z]).getD 2 0)]]
 |_,_=>False
def vlsI(l:List Int):List (List AV):=l.map fun a=>[.one (.int .i64 a)]
def valuesS:Spec:=fun args σ K=>match args,σ with
 |[.one (.data (.ints .i64 l))],[]=>K (.one (.func 76 [0])) [.cells [.data (.ints .i64 l)]]
 |_,_=>False
def valSq:SeqSpec:=fun caps lent=>match caps,lent with
 |[.one (.ptr 1 1 0 0)],[.cells [.data (.ints .i64 l)]]=>some (decide (l.length≤12),vlsI l)
 |_,_=>none
def valL:LSpec:=fun vs σ k=>match vs,σ with
 |[.one (.yld 0),.one (.data (.ints .i64 x)),.one (.int .i64 n),.one (.int .i64 i)],[.ghost P J D (some L),.cells [.data (.ints .i64 l)]]=>(P=Try.prog∧n=x.length∧x.length≤12∧0≤i∧L=vlsI (x.drop i.toNat))∧
  ∀D',k (.exit 0) [] [.ghost P J D' (some []),.cells [.data (.ints .i64 l)]]∧k .ret [] [.ghost P J D' none,.cells [.data (.ints .i64 l)]]
 |_,_=>False
def unI:List (List AV)→List Int
 |[.one (.int .i64 a)]::l=>a::unI l
 |_=>[]
theorem unI_vls: ∀l,unI (vlsI l)=l
 |[]=>rfl
 |a::l=>congrArg (a :: ·) (unI_vls l)
def apsGL:List (List AV)→LSpec:=fun items vs σ k=>match vs,σ with
 |[.one (.ptr 1 1 0 0)],[.dead,.cells [.nil]]=>items=vlsI (unI items)∧(match unI items with|[x,y]=>k .normal [.one (.ptr 1 1 0 0)] [.dead,.cells [.own 2 1],.cells [.int .i64 x,.int .i64 y]]|[x,y,z]=>k .normal [.one (.ptr 1 1 0 0)] [.dead,.cells [.own 2 1],.cells [.int .i64 x,.int .i64 y,.int .i64 z]]|_=>False)
 |[.one (.ptr 1 1 0 0)],[.dead,.cells [.own 2 1],.cells [.int .i64 x]]=>items=vlsI (unI items)∧(match unI items with|[y]=>k .normal [.one (.ptr 1 1 0 0)] [.dead,.cells [.own 2 1],.cells [.int .i64 x,.int .i64 y]]|[y,z]=>k .normal [.one (.ptr 1 1 0 0)] [.dead,.cells [.own 2 1],.cells [.int .i64 x,.int .i64 y,.int .i64 z]]|_=>False)
 |[.one (.ptr 1 1 0 0)],[.dead,.cells [.own 2 1],.cells [.int .i64 x,.int .i64 y]]=>items=vlsI (unI items)∧(match unI items with|[]=>k .normal [.one (.ptr 1 1 0 0)] [.dead,.cells [.own 2 1],.cells [.int .i64 x,.int .i64 y]]|[z]=>k .normal [.one (.ptr 1 1 0 0)] [.dead,.cells [.own 2 1],.cells [.int .i64 x,.int .i64 y,.int .i64 z]]|_=>False)
 |[.one (.ptr 1 1 0 0)],[.dead,.cells [.own 2 1],.cells [.int .i64 x,.int .i64 y,.int .i64 z]]=>items=vlsI (unI items)∧(match unI items with|[]=>k .normal [.one (.ptr 1 1 0 0)] [.dead,.cells [.own 2 1],.cells [.int .i64 x,.int .i64 y,.int .i64 z]]|_=>False)
 |_,_=>False
def apsS:Spec:=fun args σ K=>match args,σ with
 |[.one .nil,.one (.func 76 [0])],[.cells [.data (.ints .i64 [x,y])]]=>K (.one (.own 1 1)) [.dead,.cells [.int .i64 x,.int .i64 y]]
 |[.one .nil,.one (.func 76 [0])],[.cells [.data (.ints .i64 [x,y,z])]]=>K (.one (.own 1 1)) [.dead,.cells [.int .i64 x,.int .i64 y,.int .i64 z]]
 |_,_=>False
def collectS:Spec:=fun args σ K=>match args,σ with
 |[.one (.func 76 [0])],[.cells [.data (.ints .i64 [x,y])]]=>K (.one (.own 1 1)) [.dead,.cells [.int .i64 x,.int .i64 y]]
 |[.one (.func 76 [0])],[.cells [.data (.ints .i64 [x,y,z])]]=>K (.one (.own 1 1)) [.dead,.cells [.int .i64 x,.int .i64 y,.int .i64 z]]
 |_,_=>False
def sortedS:Spec:=fun args σ K=>match args,σ with
 |[.one (.func 76 [0])],[.cells [.data (.ints .i64 [x,y])]]=>K (.one (.own 1 1)) [.dead,.cells [.int .i64 ((isG [x,y]).getD 0 0),.int .i64 ((isG [x,y]).getD 1 0)]]
 |[.one (.func 76 [0])],[.cells [.data (.ints .i64 [x,y,z])]]=>K (.one (.own 1 1)) [.dead,.cells [.int .i64 ((isG [x,y,z]).getD 0 0),.int .i64 ((isG [x,y,z]).getD 1 0),.int .i64 ((isG [x,y,z]).getD 2 0)]]
 |_,_=>False
def exX:List Int:=[0,0,9,0,0]
def medianS:Spec:=fun args σ K=>match args,σ with
 |[.agg [.int .i64 w],.one (.data (.ints .i64 x)),.one (.int .i64 i)],[]=>(w=1∧x=exX∧0≤i∧i≤4)∧K (.one (.int .i64 (exX.getD i.toNat 0))) []
 |_,_=>False
def devG(kd:Int)(x:List Int)(i:Int):Int:=bif kd==0 then x.getD i.toNat 0 else sizeG (curveG x i)
def devA(kd:Int)(x:List Int)(i:Int):Nat→List Int
 |0=>[]
 |c+1=>devG kd x i::devA kd x (i+1) c
def devI(x:List Int)(n i:Int):Prop:=okX x∧n=x.length∧0≤i∧i≤n
def devL:LSpec:=fun vs σ k=>match vs,σ with
 |[.one (.data (.ints .i64 x)),.one (.ifv 102 []),.one .nil,.one (.int .i64 n),.one (.int .i64 i)],[]=>(devI x n i∧i=0)∧bif x.isEmpty then k (.exit 0) [.one .nil] [] else k (.exit 0) [.one (.own 0 1)] [.row 3 (.ints .i64 (devA 1 x i (n-i).toNat))]
 |[.one (.data (.ints .i64 x)),.one (.ifv 102 []),.one (.own 0 1),.one (.int .i64 n),.one (.int .i64 i)],[.row 3 (.ints .i64 out)]=>(devI x n i∧(out.length:Int)=i∧1≤i)∧k (.exit 0) [.one (.own 0 1)] [.row 3 (.ints .i64 (out++devA 1 x i (n-i).toNat))]
 |[.one (.data (.ints .i64 x)),.one (.ifv 100 [w]),.one .nil,.one (.int .i64 n),.one (.int .i64 i)],[]=>(devI x n i∧w=1∧x=exX∧i=0)∧k (.exit 0) [.one (.own 0 1)] [.row 3 (.ints .i64 (devA 0 x i (n-i).toNat))]
 |[.one (.data (.ints .i64 x)),.one (.ifv 100 [w]),.one (.own 0 1),.one (.int .i64 n),.one (.int .i64 i)],[.row 3 (.ints .i64 out)]=>(devI x n i∧w=1∧x=exX∧(out.length:Int)=i∧1≤i)∧k (.exit 0) [.one (.own 0 1)] [.row 3 (.ints .i64 (out++devA 0 x i (n-i).toNat))]
 |_,_=>False
def devsS:Spec:=fun args σ K=>match args,σ with
 |[.agg [.int .i64 kd,.int .i64 w,.int .i64 th,.int .i64 jo,.int .i64 mo,.int .i64 pe],.one (.data (.ints .i64 x))],[]=>(okR kd w th jo mo pe∧okX x∧(kd=0→x=exX))∧bif x.isEmpty then K (.one .nil) [] else K (.one (.own 0 1)) [.row 3 (.ints .i64 (devA kd x 0 x.length))]
 |_,_=>False
def devsDS:Spec:=fun args σ K=>match args,σ with
 |[.agg [.int .i64 kd,.int .i64 w,.int .i64 th,.int .i64 jo,.int .i64 mo,.int .i64 pe],.one (.data (.ints .i64 x))],[]=>(okR kd w th jo mo pe∧okX x∧(kd=0→x=exX))∧K (.one (.data (.ints .i64 (devA kd x 0 x.length)))) []
 |_,_=>False
noncomputable abbrev Erul:Env:=envOf Try.prog [(41,withinS),(24,unlessS),(23,firstS)] [] 48 0
noncomputable abbrev Ethr:Env:=envOf Try.prog [] [] 2 0
noncomputable abbrev Edet:Env:=envOf Try.prog [] [] 12 0
noncomputable abbrev Ecur:Env:=envOf Try.prog [(41,withinS)] [] 28 0
noncomputable abbrev Ecud:Env:=envOf Try.prog [(99,curveS),(52,sizeS)] [] 11 0
noncomputable abbrev Enan:Env:=envOf Try.prog [] [] 6 0
noncomputable abbrev Eles:Env:=envOf Try.prog [(96,nanS)] [] 17 0
noncomputable abbrev Elen:Env:=envOf Try.prog [(90,lenS)] [] 8 0
noncomputable abbrev Ele6:Env:=envOf Try.prog [] [] 25 0
noncomputable abbrev Eins:Env:=envOf Try.prog [(86,lessS)] [(1,.unroll 4),(4,.unroll 4)] 49 1
noncomputable abbrev Epdq:Env:=envOf Try.prog [(80,insS),(86,lessS)] [(2,.unroll 1)] 134 1
noncomputable abbrev Esrt:Env:=envOf Try.prog [(79,lenS),(78,pdqS)] [] 11 1
noncomputable abbrev Evls:Env:=envOf Try.prog [] [] 4 0
noncomputable abbrev Eval1:Env:=envOf Try.prog [] [(1,.spec [0,5,6,7] [] valL)] 16 2
noncomputable abbrev Eaps:Env:=envOf Try.prog [] [(1000002,.range 76 valSq [2] apsGL)] 13 1 [] [3]
noncomputable abbrev Ecol:Env:=envOf Try.prog [(77,apsS)] [] 5 1 [] [3]
noncomputable abbrev Estd:Env:=envOf Try.prog [(74,collectS),(75,sortS)] [] 9 1
noncomputable abbrev Emed:Env:=envOf Try.prog [(73,valuesS),(72,sortedS),(52,sizeS)] [] 38 0
noncomputable abbrev Edev:Env:=envOf Try.prog [(54,detectorS),(71,medianS),(98,curvesS)] [(4,.spec [1,5,6,11,12] [6] devL)] 24 0
end Go.Ev
namespace Go.Ev
open Go Go.Proofs
set_option maxRecDepth 20000
def itemR(r:List Int):List AV:=[.agg [.int .i64 (r.getD 0 0),.int .i64 (r.getD 1 0),.int .i64 (r.getD 2 0),.int .i64 (r.getD 3 0)]]
def runF(th jo:Int):Option (List Int)→Int→List Int→List (List Int)
 |none,_,[]=>[]
 |some r,_,[]=>[r]
 |none,i,d::l=>bif decide (d≤th) then runF th jo none (i+1) l else runF th jo (some [i,i,i,d]) (i+1) l
 |some r,i,d::l=>bif decide (d≤th) then runF th jo (some r) (i+1) l
  else bif decide (i-r.getD 1 0>jo+1) then r::runF th jo (some [i,i,i,d]) (i+1) l
  else runF th jo (some [r.getD 0 0,i,bif decide (d>r.getD 3 0) then i else r.getD 2 0,bif decide (d>r.getD 3 0) then d else r.getD 3 0]) (i+1) l
def lstF(th jo:Int):Option (List Int)→Int→List Int→Option (List Int)
 |r,_,[]=>r
 |none,i,d::l=>bif decide (d≤th) then lstF th jo none (i+1) l else lstF th jo (some [i,i,i,d]) (i+1) l
 |some r,i,d::l=>bif decide (d≤th) then lstF th jo (some r) (i+1) l
  else bif decide (i-r.getD 1 0>jo+1) then lstF th jo (some [i,i,i,d]) (i+1) l
  else lstF th jo (some [r.getD 0 0,i,bif decide (d>r.getD 3 0) then i else r.getD 2 0,bif decide (d>r.getD 3 0) then d else r.getD 3 0]) (i+1) l
def okRb(kd w th jo mo pe:Int)(x:List Int):Bool:=((kd==0&&w==1&&th==5&&jo==2&&mo==4&&pe==50&&x==exX)||(kd==1&&w==0&&th==800&&jo==2&&mo==8&&pe==100))&&(decide (x.length≤200)&&x.all sampleG)
def runsG(kd th jo:Int)(x:List Int):List (List Int):=runF th jo none 0 (devA kd x 0 x.length)
def runSq:SeqSpec:=fun caps lent=>match caps,lent with
 |[.one (.ptr 1 1 0 0),.one (.ptr 2 1 0 0)],[.cells [.int .i64 kd,.int .i64 w,.int .i64 th,.int .i64 jo,.int .i64 mo,.int .i64 pe],.cells [.data (.ints .i64 x)]]=>some (okRb kd w th jo mo pe x,(runsG kd th jo x).map itemR)
 |_,_=>none
def runI(d:List Int)(n i th jo:Int):Prop:=n=d.length∧d.length≤200∧0≤i∧i≤n∧0≤th∧jo=2
def runL:LSpec:=fun vs σ k=>match vs,σ with
 |[.one (.yld 0),.one (.ptr 1 1 0 0),.one .nptr,.one (.data (.ints .i64 d)),.one (.int .i64 n),.one (.int .i64 i)],[.ghost P J D (some L),.cells [.int .i64 kd,.int .i64 w,.int .i64 th,.int .i64 jo,.int .i64 mo,.int .i64 pe],.cells [.data (.ints .i64 x)]]=>
  (P=Try.prog∧runI d n i th jo∧L=(runF th jo none i (d.drop i.toNat)).map itemR)∧((lstF th jo none i (d.drop i.toNat))=none→ ∀D',k (.exit 0) [.one (.yld 0),.one .nptr] [.ghost P J D' (some []),.cells [.int .i64 kd,.int .i64 w,.int .i64 th,.int .i64 jo,.int .i64 mo,.int .i64 pe],.cells [.data (.ints .i64 x)]])∧(∀r,(lstF th jo none i (d.drop i.toNat))=some r→ ∀D',k (.exit 0) [.one (.yld 0),.one (.ptr 3 1 0 0)] [.ghost P J D' (some [itemR r]),.cells [.int .i64 kd,.int .i64 w,.int .i64 th,.int .i64 jo,.int .i64 mo,.int .i64 pe],.cells [.data (.ints .i64 x)],.cells [.int .i64 (r.getD 0 0),.int .i64 (r.getD 1 0),.int .i64 (r.getD 2 0),.int .i64 (r.getD 3 0)]])∧(∀D' lo hi pk dv,k .ret [.one (.yld 0),.one (.ptr 3 1 0 0)] [.ghost P J D' none,.cells [.int .i64 kd,.int .i64 w,.int .i64 th,.int .i64 jo,.int .i64 mo,.int .i64 pe],.cells [.data (.ints .i64 x)],.cells [.int .i64 lo,.int .i64 hi,.int .i64 pk,.int .i64 dv]])
 |[.one (.yld 0),.one (.ptr 1 1 0 0),.one (.ptr 3 1 0 0),.one (.data (.ints .i64 d)),.one (.int .i64 n),.one (.int .i64 i)],[.ghost P J D (some L),.cells [.int .i64 kd,.int .i64 w,.int .i64 th,.int .i64 jo,.int .i64 mo,.int .i64 pe],.cells [.data (.ints .i64 x)],.cells [.int .i64 lo,.int .i64 hi,.int .i64 pk,.int .i64 dv]]=>
  (P=Try.prog∧runI d n i th jo∧0≤hi∧hi≤i∧L=(runF th jo (some [lo,hi,pk,dv]) i (d.drop i.toNat)).map itemR)∧((lstF th jo (some [lo,hi,pk,dv]) i (d.drop i.toNat))=none→ ∀D',k (.exit 0) [.one (.yld 0),.one .nptr] [.ghost P J D' (some []),.cells [.int .i64 kd,.int .i64 w,.int .i64 th,.int .i64 jo,.int .i64 mo,.int .i64 pe],.cells [.data (.ints .i64 x)]])∧(∀r,(lstF th jo (some [lo,hi,pk,dv]) i (d.drop i.toNat))=some r→ ∀D',k (.exit 0) [.one (.yld 0),.one (.ptr 3 1 0 0)] [.ghost P J D' (some [itemR r]),.cells [.int .i64 kd,.int .i64 w,.int .i64 th,.int .i64 jo,.int .i64 mo,.int .i64 pe],.cells [.data (.ints .i64 x)],.cells [.int .i64 (r.getD 0 0),.int .i64 (r.getD 1 0),.int .i64 (r.getD 2 0),.int .i64 (r.getD 3 0)]])∧(∀D' lo hi pk dv,k .ret [.one (.yld 0),.one (.ptr 3 1 0 0)] [.ghost P J D' none,.cells [.int .i64 kd,.int .i64 w,.int .i64 th,.int .i64 jo,.int .i64 mo,.int .i64 pe],.cells [.data (.ints .i64 x)],.cells [.int .i64 lo,.int .i64 hi,.int .i64 pk,.int .i64 dv]])
 |_,_=>False
def runsS:Spec:=fun args σ K=>match args,σ with
 |[.agg [.int .i64 kd,.int .i64 w,.int .i64 th,.int .i64 jo,.int .i64 mo,.int .i64 pe],.one (.data (.ints .i64 x))],[]=>K (.one (.func 48 [0,1])) [.cells [.int .i64 kd,.int .i64 w,.int .i64 th,.int .i64 jo,.int .i64 mo,.int .i64 pe],.cells [.data (.ints .i64 x)]]
 |_,_=>False
def isClickS:Spec:=fun args σ K=>match args,σ with
 |[.agg [.int .i64 kd,.int .i64 w,.int .i64 th,.int .i64 jo,.int .i64 mo,.int .i64 pe],.agg [.int .i64 lo,.int .i64 hi,.int .i64 pk,.int .i64 dv]],[]=>(0≤lo∧lo≤hi∧hi≤1000)∧K (.one (.bool (decide (hi-lo<mo)))) []
 |_,_=>False
def okRun(mo:Int)(r:List Int):Bool:=decide (r.length=4)&&(decide (0≤r.getD 0 0)&&(decide (r.getD 0 0≤r.getD 1 0)&&(decide (r.getD 1 0≤1000)&&decide (r.getD 1 0-r.getD 0 0<mo))))
def choGL:List (List AV)→LSpec:=fun items vs σ k=>match vs,σ with
 |[.one (.ptr 0 1 0 0),.one (.ptr 1 1 0 0),.one (.ptr 2 1 0 0)],[.cells [.int .i64 kd,.int .i64 w,.int .i64 th,.int .i64 jo,.int .i64 mo,.int .i64 pe],.cells [.bool c],.cells [.nil]]=> ∃rs,items=rs.map itemR∧(c=true∧rs.all (okRun mo)=true∧rs.length≤1000)∧
  bif rs.isEmpty then k .normal [.one (.ptr 0 1 0 0),.one (.ptr 1 1 0 0),.one (.ptr 2 1 0 0)] [.cells [.int .i64 kd,.int .i64 w,.int .i64 th,.int .i64 jo,.int .i64 mo,.int .i64 pe],.cells [.bool c],.cells [.nil]]
  else k .normal [.one (.ptr 0 1 0 0),.one (.ptr 1 1 0 0),.one (.ptr 2 1 0 0)] [.cells [.int .i64 kd,.int .i64 w,.int .i64 th,.int .i64 jo,.int .i64 mo,.int .i64 pe],.cells [.bool c],.cells [.own 3 4],.row 47 (.mat .i64 4 rs)]
 |[.one (.ptr 0 1 0 0),.one (.ptr 1 1 0 0),.one (.ptr 2 1 0 0)],[.cells [.int .i64 kd,.int .i64 w,.int .i64 th,.int .i64 jo,.int .i64 mo,.int .i64 pe],.cells [.bool c],.cells [.own 3 4],.row 47 (.mat .i64 4 out)]=> ∃rs,items=rs.map itemR∧(c=true∧rs.all (okRun mo)=true∧out.length+rs.length≤1000)∧
  k .normal [.one (.ptr 0 1 0 0),.one (.ptr 1 1 0 0),.one (.ptr 2 1 0 0)] [.cells [.int .i64 kd,.int .i64 w,.int .i64 th,.int .i64 jo,.int .i64 mo,.int .i64 pe],.cells [.bool c],.cells [.own 3 4],.row 47 (.mat .i64 4 (out++rs))]
 |_,_=>False
def okClk(kd w th jo mo pe:Int)(x:List Int):Prop:=okR kd w th jo mo pe∧x.length≤1000000∧(kd=0→x=exX)∧(errE x=0→(runsG kd th jo x).all (okRun mo)=true∧(runsG kd th jo x).length≤1000)
def choS:Spec:=fun args σ K=>match args,σ with
 |[.agg [.int .i64 kd,.int .i64 w,.int .i64 th,.int .i64 jo,.int .i64 mo,.int .i64 pe],.one (.data (.ints .i64 x)),.one (.bool c)],[]=>(c=true∧okClk kd w th jo mo pe x)∧
  bif errE x==0 then(bif (runsG kd th jo x).isEmpty then K (.tup [.one .nil,.one (.int .i64 0)]) [] else K (.tup [.one (.own 0 4),.one (.int .i64 0)]) [.row 47 (.mat .i64 4 (runsG kd th jo x))])
  else K (.tup [.one .nil,.one (.int .i64 (errE x))]) []
 |_,_=>False
def clkS:Spec:=fun args σ K=>match args,σ with
 |[.agg [.int .i64 kd,.int .i64 w,.int .i64 th,.int .i64 jo,.int .i64 mo,.int .i64 pe],.one (.data (.ints .i64 x))],[]=>okClk kd w th jo mo pe x∧
  bif errE x==0 then(bif (runsG kd th jo x).isEmpty then K (.tup [.one .nil,.one (.int .i64 0)]) [] else K (.tup [.one (.own 0 4),.one (.int .i64 0)]) [.row 47 (.mat .i64 4 (runsG kd th jo x))])
  else K (.tup [.one .nil,.one (.int .i64 (errE x))]) []
 |_,_=>False
def clkR(kd th jo:Int)(x:List Int):List (List Int):=bif errE x==0 then runsG kd th jo x else[]
def clkDS:Spec:=fun args σ K=>match args,σ with
 |[.agg [.int .i64 kd,.int .i64 w,.int .i64 th,.int .i64 jo,.int .i64 mo,.int .i64 pe],.one (.data (.ints .i64 x))],[]=>okClk kd w th jo mo pe x∧K (.tup [.one (.data (.mat .i64 4 (clkR kd th jo x))),.one (.int .i64 (errE x))]) []
 |_,_=>False
noncomputable abbrev Eru1:Env:=envOf Try.prog [(49,devsDS)] [(2,.spec [0,1,4,9,10,11] [0,4] runL)] 75 3
noncomputable abbrev Erun:Env:=envOf Try.prog [] [] 6 0
noncomputable abbrev Eisc:Env:=envOf Try.prog [] [] 15 0
noncomputable abbrev Echo:Env:=envOf Try.prog [(33,rulesS),(28,errS),(23,firstS),(34,runsS),(35,isClickS)] [(1000006,.range 48 runSq [3,5,9] choGL)] 34 0
noncomputable abbrev Eclk:Env:=envOf Try.prog [(22,choS)] [] 11 0
end Go.Ev
namespace Go.Ev
open Go Go.Proofs
set_option maxRecDepth 20000
def okMk(m:List Int):Bool:=decide (0≤m.getD 0 0)&&(decide (m.getD 0 0≤m.getD 1 0)&&decide (m.getD 1 0≤1000))
def cntG:List (List Int)→Int
 |[]=>0
 |m::l=>(m.getD 1 0-m.getD 0 0+1)+cntG l
def countL:LSpec:=fun vs σ k=>match vs,σ with
 |[.one (.int .i64 n),.one (.data (.mat .i64 2 ms)),.one (.int .i64 l),.one (.int .i64 i)],[]=>(ms.all okMk=true∧l=ms.length∧ms.length≤100∧0≤i∧0≤n∧n≤1001*i)∧k (.exit 0) [.one (.int .i64 (n+cntG (ms.drop i.toNat)))] []
 |_,_=>False
def countS:Spec:=fun args σ K=>match args,σ with
 |[.one (.data (.mat .i64 2 ms))],[]=>(ms.all okMk=true∧ms.length≤100)∧K (.one (.int .i64 (cntG ms))) []
 |_,_=>False
def singE(x:List Int)(ms:List (List Int)):Int:=bif ((ms.length:Int)==0)||decide ((x.length:Int)-cntG ms≥2) then 0 else 26
def singS:Spec:=fun args σ K=>match args,σ with
 |[.one (.data (.ints .i64 x)),.one (.data (.mat .i64 2 ms))],[]=>(ms.all okMk=true∧ms.length≤100∧x.length≤1000)∧K (.one (.int .i64 (singE x ms))) []
 |_,_=>False
def idxS:Spec:=fun args σ K=>match args,σ with
 |[.one (.int .i64 n),.one (.ptr 0 1 0 0)],[.cells [.data (.ints .i64 x)]]=>x.length≤1000∧K (.one (.bool (withinG n 0 ((x.length:Int)-1)))) [.cells [.data (.ints .i64 x)]]
 |_,_=>False
def exY:List Int:=[0,0,9,6,8]
def marksS:Spec:=fun args σ K=>match args,σ with
 |[.one (.data (.ints .i64 x)),.one (.data (.mat .i64 2 ms))],[]=>(x=exY∧ms=[[2,2]])∧K (.tup [.one (.int .i64 0),.one (.int .i64 0)]) []
 |_,_=>False
def gcdG(a b:Int):Int:=if b=0 then a else gcdG b (a.tmod b)
termination_by b.natAbs
decreasing_by
 rename_i h
 rw[Int.natAbs_tmod]
 exact Nat.mod_lt _ (by omega)
def gcdL:LSpec:=fun vs σ k=>match vs,σ with
 |[.one (.int .i64 a),.one (.int .i64 b)],[]=>k (.exit 0) [.one (.int .i64 (gcdG a b))] []
 |_,_=>False
def gcdS:Spec:=fun args σ K=>match args,σ with
 |[.one (.int .i64 a),.one (.int .i64 b)],[]=>K (.one (.int .i64 (sizeG (gcdG a b)))) []
 |_,_=>False
def floorS:Spec:=fun args σ K=>match args,σ with
 |[.one (.int .i64 n),.one (.int .i64 b)],[]=>(1≤b∧b≤1000000000∧ -1000000000≤n∧n≤1000000000)∧K (.one (.int .i64 (n/b))) []
 |_,_=>False
def addG(x:List Int)(lo hi:Int)(row:List Int)(i f:Int):List Int:= bif withinG i lo hi then row.set (i-lo).toNat (wi (row.getD (i-lo).toNat 0+f)) else row.set (row.length-1) (wi (row.getD (row.length-1) 0-wi (f*x.getD i.toNat 0)))
def addOk(x:List Int)(lo hi:Int)(row:List Int)(i:Int):Prop:=0≤i∧i<x.length∧x.length≤200∧0≤lo∧lo≤hi∧hi<x.length∧(row.length:Int)=hi-lo+2
def addcS:Spec:=fun args σ K=>match args,σ with
 |[.one (.int .i64 i),.one (.int .i64 f),.one (.ptr 0 1 0 0),.one (.ptr 1 1 0 0),.one (.ptr 3 1 0 0)],[.cells [.int .i64 lo,.int .i64 hi],.cells [.own 2 1],.row 3 (.ints .i64 row),.cells [.data (.ints .i64 x)]]=>addOk x lo hi row i∧K (.tup []) [.cells [.int .i64 lo,.int .i64 hi],.cells [.own 2 1],.row 3 (.ints .i64 (addG x lo hi row i f)),.cells [.data (.ints .i64 x)]]
 |_,_=>False
def wgtG(k:Nat):Int:=[1,-2,1].getD k 0
def eqK(x:List Int)(lo hi j:Int)(row:List Int)(k:Nat):List Int:= addG x lo hi (addG x lo hi (addG x lo hi row (j-1+k-1) (wgtG k)) (j-1+k) (wi (-2*wgtG k))) (j-1+k+1) (wgtG k)
def eqA(x:List Int)(lo hi j:Int)(row:List Int):Nat→List Int
 |0=>row
 |c+1=>eqA x lo hi j (eqK x lo hi j row (2-c)) c
def eqG(x:List Int)(lo hi j:Int):List Int:=eqA x lo hi j (List.replicate (hi-lo+2).toNat 0) 3
def eqOk(x:List Int)(lo hi j:Int):Prop:=2≤j∧j+2<x.length∧x.length≤200∧0≤lo∧lo≤hi∧hi<x.length
def eqnL:LSpec:=fun vs σ k=>match vs,σ with
 |[.one (.int .i64 j),.one (.ptr 0 1 0 0),.one (.ptr 1 1 0 0),.one (.func 51 [3,1,0]),.agg [.int .i64 w0,.int .i64 w1,.int .i64 w2],.one (.int .i64 c)],[.cells [.data (.ints .i64 x)],.cells [.own 2 1],.row 3 (.ints .i64 row),.cells [.int .i64 lo,.int .i64 hi]]=>
  (w0=1∧w1= -2∧w2=1∧eqOk x lo hi j∧(row.length:Int)=hi-lo+2∧0≤c∧c≤3)∧k (.exit 0) [.one (.ptr 0 1 0 0)] [.cells [.own 1 1],.row 3 (.ints .i64 (eqA x lo hi j row (3-c).toNat))]
 |_,_=>False
def eqnS:Spec:=fun args σ K=>match args,σ with
 |[.one (.data (.ints .i64 x)),.agg [.int .i64 lo,.int .i64 hi],.one (.int .i64 j)],[]=>eqOk x lo hi j∧K (.one (.own 0 1)) [.row 3 (.ints .i64 (eqG x lo hi j))]
 |_,_=>False
noncomputable abbrev Ecnt:Env:=envOf Try.prog [] [(3,.spec [3,6,7,8] [3] countL)] 22 0
noncomputable abbrev Esin:Env:=envOf Try.prog [(25,countS),(24,unlessS)] [] 17 0
noncomputable abbrev Eixx:Env:=envOf Try.prog [(41,withinS)] [] 9 1
noncomputable abbrev Emks:Env:=envOf Try.prog [(28,errS),(24,unlessS),(23,firstS),(26,singS),(40,idxS)] [(6,.unroll 3)] 74 0
noncomputable abbrev Egcd:Env:=envOf Try.prog [(52,sizeS)] [(1,.spec [0,1] [0] gcdL)] 13 0
noncomputable abbrev Eflo:Env:=envOf Try.prog [] [] 16 0
noncomputable abbrev Eadc:Env:=envOf Try.prog [(41,withinS)] [] 37 4
noncomputable abbrev Eeqn:Env:=envOf Try.prog [(41,withinS),(51,addcS)] [(4,.spec [2,3,7,8,20,21] [7] eqnL)] 52 0
end Go.Ev
