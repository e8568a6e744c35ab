/-
  Part of the proof that TopClickOnly holds.
-/
import Derived.Test.YtgkngjjnpiheoaaT12
import Derived.LoopNIn
import Derived.RangeFuncIn
set_option linter.unusedVariables false
set_option linter.unusedSimpArgs false
set_option linter.unusedSectionVars false
namespace Go.Ev
open Go Go.RowKit
variable [Glob]
def toExit:Ex→Exit
 |.normal=> .normal
 |.exit i=> .exit i
 |.ret=> .ret
theorem reach_front{σ:List Blk}: ∀(n:Nat) (todo acc:List Nat),∃r,reach σ n todo acc=acc++r
 |0,todo,acc=>⟨[],by simp[reach]⟩
 |n+1,[],acc=>⟨[],by simp[reach]⟩
 |n+1,id::todo,acc=>by
  simp only[reach]
  split
  ·exact reach_front n todo acc
  ·split
   ·obtain⟨r,h⟩:=reach_front (σ:=σ) n _ (acc++[id])
    exact⟨[id]++r,by rw[h,List.append_assoc]⟩
   ·exact reach_front n todo acc
section
variable {F:Nat→Prop} {E:Env} {w0 w:World} {m0:Nat→Prop} {ρ0 ρ:List (Nat × Nat)} {σ:List Blk} {s:St} {a:Act}
theorem Inv.sel(I:Inv F w0 m0 ρ0 ρ σ w)(ids:List Nat): ∃ρ',Inv F w0 m0 ρ0 ρ' (selB σ (stay ρ0.length σ ids)) w∧(∀i j,pos (stay ρ0.length σ ids) i=some j→ ∀g,ρ[i]? = some g→ρ'[j]? = some g)∧
  (∀b,b<w.heap.size→Mut F ρ' (selB σ (stay ρ0.length σ ids)) b→Mut F ρ σ b):=by
 obtain⟨r,hr⟩:=I.pre
 have hlen:=I.heap.len
 have hm:ρ0.length≤σ.length:=by rw[← hlen,hr];simp
 obtain⟨hnd,hlt⟩:(stay ρ0.length σ ids).Nodup∧ ∀i ∈ stay ρ0.length σ ids,i<σ.length:=reach_ok 64 _ _ List.nodup_range (fun i hi=>by simp at hi;omega)
 obtain⟨r',hfront⟩: ∃r',stay ρ0.length σ ids=List.range ρ0.length++r':=reach_front 64 _ _
 generalize stay ρ0.length σ ids=L at *
 have hget: ∀(j i:Nat) (g:Nat × Nat),L[j]? = some i→(ρ[i]? = some g↔(L.map fun i=>ρ.getD i (0,0))[j]? = some g):=by
  intro j i g hj
  have hi:=hlt i (List.mem_of_getElem? hj)
  rw[List.getElem?_map,hj]
  simp only[Option.map_some,Option.some.injEq]
  rw[List.getElem?_eq_getElem (by omega)]
  simp[List.getD,List.getElem?_eq_getElem (show i<ρ.length by omega)]
 have hf: ∀i j,pos L i=some j→ ∀g,ρ[i]? = some g→(L.map fun i=>ρ.getD i (0,0))[j]? = some g:=fun i j hp g hg=>(hget j i g (pos_get hp)).1 hg
 have hσL: ∀(j:Nat) (b:Blk),(selB σ L)[j]? = some b→ ∃i b',L[j]? = some i∧σ[i]? = some b'∧b=mapIdsB (pos L) b':=by
  intro j b hb
  unfold selB at hb
  rw[List.getElem?_map] at hb
  cases hj:L[j]? with
  |none=>rw[hj] at hb;simp at hb
  |some i=>
   rw[hj] at hb
   simp at hb
   have hi:=hlt i (List.mem_of_getElem? hj)
   refine⟨i,σ[i],rfl,List.getElem?_eq_getElem hi,?_⟩
   rw[← hb]
   simp[List.getElem?_eq_getElem hi]
 have lm: ∀b,LMut (L.map fun i=>ρ.getD i (0,0)) (selB σ L) b→LMut ρ σ b:=by
  rintro b ⟨j,b1,n,g,h1,h2,h3,h6⟩
  obtain⟨i,b',h4,h5,rfl⟩:=hσL j b1 h1
  exact⟨i,b',n,g,h5,by rw[← (mapIdsB_count (f:=pos L) b').2];exact h2,(hget j i _ h4).2 h3,(mapIdsB_owns b').1 h6⟩
 have hmm: ∀b,b<w.heap.size→Mut F (L.map fun i=>ρ.getD i (0,0)) (selB σ L) b→Mut F ρ σ b:=by
  rintro b _ (h|h)
  ·exact .inl h
  ·exact .inr (lm b h)
 refine⟨L.map fun i=>ρ.getD i (0,0),{
  heap:=⟨by simp[selB],?_,?_,?_,I.heap.glob.keep (Keep.same hmm)⟩
  pre:= ?_
  os:=I.os
  tape:=I.tape
  output:=I.output
  size:=I.size
  blk:=I.blk
  shape:=I.shape
  fresh:=fun g hg=>I.fresh g (lm g hg)
  foreign:=I.foreign
  apart:=fun g hg=>I.apart g (lm g hg) },hf,hmm⟩
 ·intro j b g n hb hg hl
  obtain⟨i,b',h4,h5,rfl⟩:=hσL j b hb
  have hl':b'.live=true:=by rw[← (mapIdsB_count (f:=pos L) b').2];exact hl
  obtain⟨h6,h7,h8⟩:=I.heap.live i b' g n h5 ((hget j i _ h4).2 hg) hl'
  exact⟨DenBlk_re hf (.inr hmm) h6,by rw[(mapIdsB_count b').1,h7],h8⟩
 ·intro j b g n k hb hg hl hk
  obtain⟨i,b',h4,h5,rfl⟩:=hσL j b hb
  have hl':b'.live=true:=by rw[← (mapIdsB_count (f:=pos L) b').2];exact hl
  exact I.heap.lt i b' g n k h5 ((hget j i _ h4).2 hg) hl' ((mapIdsB_owns b').1 hk)
 ·intro j j' b b' g g' n n' k hb hb' hl hl' hg hg' hk hk'
  obtain⟨i,c,h4,h5,rfl⟩:=hσL j b hb
  obtain⟨i',c',h4',h5',rfl⟩:=hσL j' b' hb'
  have e:=I.heap.inj' i i' c c' g g' n n' k h5 h5' (by rw[← (mapIdsB_count (f:=pos L) c).2];exact hl) (by rw[← (mapIdsB_count (f:=pos L) c').2];exact hl') ((hget j i _ h4).2 hg) ((hget j' i' _ h4').2 hg') ((mapIdsB_owns c).1 hk) ((mapIdsB_owns c').1 hk')
  subst e
  have hjl:=(List.getElem?_eq_some_iff.1 h4).1
  exact(List.getElem?_inj hjl hnd).1 (h4.trans h4'.symm)
 ·refine⟨r'.map fun i=>ρ.getD i (0,0),?_⟩
  rw[hfront,List.map_append]
  congr 1
  refine List.ext_getElem? fun i=> ?_
  rw[List.getElem?_map]
  rcases Nat.lt_or_ge i ρ0.length with h|h
  ·rw[List.getElem?_range h,List.getElem?_eq_getElem h]
   simp only[Option.map_some,Option.some.injEq]
   rw[hr,List.getD_eq_getElem?_getD,List.getElem?_append_left h,List.getElem?_eq_getElem h]
   rfl
  ·rw[List.getElem?_eq_none (by simpa using h),List.getElem?_eq_none h]
   rfl
theorem Inv.head(I:Inv F w0 m0 ρ0 ρ s.σ w)(S:Slots (Mut F ρ s.σ) ρ s.t a w)(hm:ρ0.length=E.m)(hn:s.t.length=E.n)(live:List Nat):
  ∃ρ',Inv F w0 m0 ρ0 ρ' (headB E.m live s) w∧Slots (Mut F ρ' (headB E.m live s)) ρ' (spread E.n live (headV E.m live s) (headB E.m live s)).t a w∧ ∀b,LMut ρ' (headB E.m live s) b→LMut ρ s.σ b:=by
 obtain⟨ρ',I',hf,hmm⟩:=I.sel ((liveV live s).flatMap idsA)
 rw[hm] at I' hf hmm
 refine⟨ρ',I',⟨by simp[spread,← S.len,hn],fun i v hv=> ?_⟩,fun b hb=> ?_⟩
 ·simp only[spread,List.getElem?_map] at hv
  rcases Nat.lt_or_ge i E.n with hi|hi
  ·rw[List.getElem?_range hi] at hv
   simp only[Option.map_some,Option.some.injEq] at hv
   obtain⟨u,h1,h2⟩:=S.get i _ (List.getElem?_eq_getElem (by omega))
   refine⟨u,h1,?_⟩
   split at hv
   ·rename_i j hj
    have hj':=pos_get hj
    have:(headV E.m live s)[j]? = some (mapIdsA (pos (headL E.m live s)) (s.t[i]'(by omega))):=by
     unfold headV liveV
     rw[List.getElem?_map,List.getElem?_map,hj']
     simp[List.getElem?_eq_getElem (show i<s.t.length by omega)]
    rw[List.getD_eq_getElem?_getD,this] at hv
    simp only[Option.getD_some] at hv
    subst hv
    exact Den_re hf (.inr hmm) h2
   ·subst hv
    trivial
  ·rw[List.getElem?_eq_none (by simpa using hi)] at hv
   cases hv
 ·have hlt:b<w.heap.size:=by
   obtain⟨id,c,n,g,h1,h2,h3,h4⟩:=hb
   exact I'.heap.lt id c g n b h1 h3 h2 h4
  exact(hmm b hlt (.inr hb)).resolve_left (I'.apart b hb)
theorem Rel.head{X:XS}(R:Rel X F w0 m0 ρ0 s a w)(hm:ρ0.length=E.m)(hn:s.t.length=E.n)(live:List Nat):Rel X F w0 m0 ρ0 (spread E.n live (headV E.m live s) (headB E.m live s)) a w:=by
 obtain⟨ρ,I,S,hd⟩:=R
 obtain⟨ρ',I',S',_⟩:=I.head S hm hn live
 exact⟨ρ',I',S',hd⟩
theorem Inv.kill(I:Inv F w0 m0 ρ0 ρ σ w)(L:List Nat):
  Inv (fun b=>F b∨(LMut ρ σ b∧¬LMut ρ (killAll L σ) b)) w0 m0 ρ0 ρ (killAll L σ) w∧ ∀b,Mut (fun b=>F b∨(LMut ρ σ b∧¬LMut ρ (killAll L σ) b)) ρ (killAll L σ) b→Mut F ρ σ b:=by
 have hLM: ∀b,LMut ρ (killAll L σ) b→LMut ρ σ b:=by
  rintro b ⟨id,c,n,g,h1,h2,h3,h4⟩
  exact⟨id,c,n,g,(killAll_live _ _ h1 h2).1,h2,h3,h4⟩
 have hM: ∀b,Mut (fun b=>F b∨(LMut ρ σ b∧¬LMut ρ (killAll L σ) b)) ρ (killAll L σ) b→Mut F ρ σ b:=by
  rintro b ((h|h)|h)
  ·exact .inl h
  ·exact .inr h.1
  ·exact .inr (hLM b h)
 refine⟨{ I with
  heap:=⟨by rw[killAll_length];exact I.heap.len,fun id b g n h1 h2 h3=> ?_,fun id b g n k h1 h2 h3 h4=>I.heap.lt id b g n k (killAll_live _ _ h1 h3).1 h2 h3 h4,fun i j b b' g g' n n' k h1 h2 h3 h4 h5 h6 h7 h8=>I.heap.inj' i j b b' g g' n n' k (killAll_live _ _ h1 h3).1 (killAll_live _ _ h2 h4).1 h3 h4 h5 h6 h7 h8,I.heap.glob.keep (Keep.same fun b _ hb=>hM b hb)⟩
  fresh:=fun g hg=>I.fresh g (hLM g hg)
  foreign:= ?_
  apart:= ?_ },hM⟩
 ·obtain⟨a1,a2,a3⟩:=I.heap.live id b g n (killAll_live _ _ h1 h3).1 h2 h3
  exact⟨a1.keep (Keep.same fun b _ hb=>hM b hb) (fun _ _ h=>h) fun _ _=>rfl,a2,a3⟩
 ·rintro b (h|⟨⟨id,c,n,g,h1,h2,h3,h4⟩,_⟩)
  ·exact I.foreign b h
  ·exact I.heap.lt id c g n b h1 h3 h2 h4
 ·rintro g hg (h|h)
  ·exact I.apart g (hLM g hg) h
  ·exact h.2 hg
theorem Slots.anti{m m':Nat→Prop}{t:List AV}(h: ∀b,b<w.heap.size→m' b→m b)(S:Slots m ρ t a w):Slots m' ρ t a w:=S.keep (Keep.same h) fun _ _ h=>h
theorem HeapOk.anti{F':Nat→Prop}(h: ∀b,b<w.heap.size→Mut F' ρ σ b→Mut F ρ σ b)(H:HeapOk F ρ σ w):HeapOk F' ρ σ w:=
 ⟨H.len,fun id b g n h1 h2 h3=>by
  obtain⟨a1,a2,a3⟩:=H.live id b g n h1 h2 h3
  exact⟨a1.keep (Keep.same h) (fun _ _ h=>h) fun _ _=>rfl,a2,a3⟩,H.lt,H.inj',H.glob.keep (Keep.same h)⟩
theorem LMut.lt(H:HeapOk F ρ σ w){b:Nat}(h:LMut ρ σ b):b<w.heap.size:=by
 obtain⟨id,c,n,g,h1,h2,h3,h4⟩:=h
 exact H.lt id c g n b h1 h3 h2 h4
end
end Go.Ev
namespace Go.Ev
open Go Go.RowKit
variable [Glob]
def jumpOf:Ex→Code
 |.normal=> .skip
 |.exit i=> .exit i
 |.ret=> .ret
theorem wpIn_n{r:Option Nat}{n:Nat}{P:Program}{c:Code}{Q:Exit→Act→World→Prop}{a:Act}{w:World}(h:c.wpIn (wideR r) 0 P Q a w):c.wpIn (wideR r) n P Q a w:=
 fun b k cs h1 h2 _=>h b k cs h1 h2 (fun _ h=>by simp[wideR,Fence.wide] at h)
def Sound(E:Env)(ρ0:List (Nat × Nat))(c:Code):Prop:= ∀(X:XS) (F:Nat→Prop) (w0:World) (m0:Nat→Prop) (r:Option Nat) (s:St) (k:Ex→St→Prop) (a:Act) (w:World) (Q:Exit→Act→World→Prop),(∀d ∈ dsts c,X.fz d=none)→(r=none∨noRange c=true)→evCode E c s k→Rel X F w0 m0 ρ0 s a w→ (∀(F':Nat→Prop),(∀b,F b→F' b)→ ∀e s' a' w',k e s'→Rel X F' w0 m0 ρ0 s' a' w'→Q (toExit e) a' w')→c.wpIn (wideR r) 0 E.P Q a w
section
variable {E:Env} {ρ0:List (Nat × Nat)} {ins:List Nat} {G:List (List AV)→LSpec} {k:Ex→List AV→List Blk→Prop} {a:Act} {l dblk:Nat} {fn:FuncId} {ps:Array Tmp} {assign body:Code}
abbrev recOf(fn:FuncId)(a:Act)(ps:Array Tmp)(assign body:Code)(dblk:Nat)(st:LoopState)(pe:Option Code):Loop:={ state:=st,pending:=pe,fn,tmps:=a.tmps,params:=ps,assign,body,defers:=dblk }
def RJ(E:Env)(ρ0:List (Nat × Nat))(ins:List Nat)(G:List (List AV)→LSpec)(k:Ex→List AV→List Blk→Prop)(a:Act)(l dblk:Nat)(fn:FuncId)(ps:Array Tmp)(assign body:Code):GJ:=fun m D r w=>
  ∃(ρ:List (Nat × Nat)) (vs:List AV) (σ:List Blk) (st:LoopState) (pend:Option Code),HeapOk (fun b=>m b∧¬LMut ρ σ b) ρ σ w∧(∃q,ρ=ρ0++q)∧Slots (Mut (fun b=>m b∧¬LMut ρ σ b) ρ σ) ρ (spread E.n ins vs σ).t a w∧
    (∀k,D k↔(k=dblk∨LMut ρ σ k))∧¬LMut ρ σ l∧¬LMut ρ σ dblk∧w.heap[l]? = some (.loop (recOf fn a ps assign body dblk st pend))∧w.heap[dblk]? = some (.deferred (some []))∧
    (match r with
     |some rest=>st= .ready∧pend=none∧G rest vs σ k
     |none=>st= .done∧ ∃e,e≠ .normal∧pend=some (jumpOf e)∧k e vs σ)
theorem RJ.keep(m m' D:Nat→Prop)(r:Option (List (List AV)))(w w':World)(h:RJ E ρ0 ins G k a l dblk fn ps assign body m D r w)(K:Keep m m' w w')(hh: ∀k,k=l∨D k→w'.heap[k]? = w.heap[k]?):
  RJ E ρ0 ins G k a l dblk fn ps assign body m' D r w':=by
 obtain⟨ρ,vs,σ,st,pend,H,hp,S,hD,hl,hd,h1,h2,h3⟩:=h
 have hK:Keep (Mut (fun b=>m b∧¬LMut ρ σ b) ρ σ) (Mut (fun b=>m' b∧¬LMut ρ σ b) ρ σ) w w':=by
  refine⟨K.size,fun b hb hm=>K.blk b hb fun h=> ?_,?_,K.shape⟩
  ·by_cases hl:LMut ρ σ b
   ·exact hm (.inr hl)
   ·exact hm (.inl ⟨h,hl⟩)
  ·rintro b hb (⟨h,h'⟩|h)
   ·exact .inl ⟨K.mt b hb h,h'⟩
   ·exact .inr h
 refine⟨ρ,vs,σ,st,pend,⟨H.len,?_,?_,H.inj',H.glob.keep hK⟩,hp,S.keep hK (fun _ _ h=>h),hD,hl,hd,(hh l (.inl rfl)).trans h1,(hh dblk (.inr ((hD _).2 (.inl rfl)))).trans h2,h3⟩
 ·intro id b g n e1 e2 e3
  obtain⟨a1,a2,a3⟩:=H.live id b g n e1 e2 e3
  exact⟨a1.keep hK (fun _ _ h=>h) fun k hk=>hh k (.inr ((hD k).2 (.inr ⟨id,b,n,g,e1,e3,e2,hk⟩))),a2,Nat.lt_of_lt_of_le a3 K.size⟩
 ·exact fun id b g n k e1 e2 e3 e4=>Nat.lt_of_lt_of_le (H.lt id b g n k e1 e2 e3 e4) K.size
theorem putPs_slots{m:Nat→Prop}{ρ:List (Nat × Nat)}{w:World}: ∀(ps:List Tmp) {x:List AV} {vals:List Value} {t:List AV} {tm:Array Value},x.length=ps.length→All2 (Den w m ρ) x vals→Slots m ρ t { tmps:=tm,defers:=[] } w→
  Slots m ρ (putPs ps x t) { tmps:=(ps.zip vals).foldl (fun t (p,v)=>t.setIfInBounds p v) tm,defers:=[] } w∧ ∀i,i ∉ ps→((ps.zip vals).foldl (fun t (p,v)=>t.setIfInBounds p v) tm)[i]? = tm[i]?
 |[],[],[],t,tm,_,_,S=>⟨S,fun _ _=>rfl⟩
 |[],[],_::_,_,_,_,h,_=>h.elim
 |[],_::_,_,_,_,h,_,_=>by simp at h
 |_::_,[],_,_,_,h,_,_=>by simp at h
 |_::_,_::_,[],_,_,_,h,_=>h.elim
 |p::ps,y::x,v::vals,t,tm,hl,hA,S=>by
  have S':Slots m ρ (t.set p y) { tmps:=tm.setIfInBounds p v,defers:=[] } w:=Slots.put (d:=some p) S hA.1
  obtain⟨h1,h2⟩:=putPs_slots ps (by simpa using hl) hA.2 S'
  refine⟨h1,fun i hi=> ?_⟩
  simp only[List.mem_cons,not_or] at hi
  simp only[List.zip_cons_cons,List.foldl_cons]
  rw[h2 i hi.2]
  exact Array.getElem?_setIfInBounds_ne (fun e=>hi.1 e.symm)
theorem shape_putObj{w:World}{l:Nat}{r r':Loop}(h:w.heap[l]? = some (.loop r))(b:Nat):(w.putObj l (.loop r')).shape? b=w.shape? b:=by
 unfold World.shape?
 by_cases hb:b=l
 ·subst hb
  rw[World.putObj_heap_same (Array.getElem?_eq_some_iff.1 h).1,h]
 ·rw[World.putObj_heap_other hb]
theorem RJ.round(hm0:ρ0.length=E.m)(hsz:a.tmps.size=E.n)(ha:Sound E ρ0 assign)(hb:Sound E ρ0 body)(hna:noRange assign=true)(hnb:noRange body=true)(hoff:offPs ps.toList assign body ins=true)(hld:l≠dblk)
    (step: ∀x rest vs σ k,G (x::rest) vs σ k→evRound E ps.toList assign body ins vs σ x fun e vs' σ'=>match e with
      |.normal=>G rest vs' σ' k
      |e=>k e vs' σ')
    (m D:Nat→Prop) (x:List AV) (rest:List (List AV)) (w:World) (vals:List Value) (hJ:RJ E ρ0 ins G k a l dblk fn ps assign body m D (some (x::rest)) w) (hml: ∀k,m k→k<w.heap.size) (hDm: ∀k,k=l∨D k→m k) (hA:All2 (Den w m []) x vals):
    ∃fn' tmps assign' body',(Instr.yield l vals.toArray).run E.P w= .ok (.round l fn' tmps assign' body') w∧ ∀n,RoundIn Fence.wide n E.P l fn' tmps assign' body' w fun e w'=> ∃(c:Bool) (D':Nat→Prop),e= .returned (.bool c)∧
      RJ E ρ0 ins G k a l dblk fn ps assign body (fun k=>(m k∧¬(k=l∨D k))∨(k=l∨D' k)) D' (if c then some rest else none) w'∧(∀k,D' k→(k<w.heap.size→D k)∧k<w'.heap.size)∧
      w.heap.size≤w'.heap.size∧(∀k,k<w.heap.size→¬(k=l∨D k)→w'.heap[k]? = w.heap[k]?)∧(∀k,k<w.heap.size→w'.shape? k=w.shape? k)∧w'.os=w.os∧w'.tape=w.tape∧w'.output=w.output:=by
  obtain⟨ρ,vs,σ,st,pend,H,hp,S,hD,hl,hd,h1,h2,rfl,rfl,hG⟩:=hJ
  have hev:=step x rest vs σ k hG
  unfold evRound at hev
  split at hev
  case isFalse=>exact hev.elim
  rename_i hxl
  have hvl:vals.toArray.size=ps.size:=by rw[List.size_toArray,← hA.length,hxl];simp
  have hy:=run_yield (P:=E.P) (args:=vals.toArray) h1 hvl
  refine⟨_,_,_,_,hy,fun n=>roundIn_of_wpIn trivial ?_⟩
  have hll:l<w.heap.size:=(Array.getElem?_eq_some_iff.1 h1).1
  have hdl:dblk<w.heap.size:=(Array.getElem?_eq_some_iff.1 h2).1
  generalize hF':(fun b=>m b∧¬LMut ρ σ b)=F' at *
  have hF'i: ∀b,F' b↔m b∧¬LMut ρ σ b:=fun b=>by rw[← hF']
  have hI0:Inv F' w (LMut ρ σ) ρ0 ρ σ w:={
    heap:=H
    pre:=hp
    os:=rfl
    tape:=rfl
    output:=rfl
    size:=Nat.le_refl _
    blk:=fun _ _ _=>rfl
    shape:=fun _ _=>rfl
    fresh:=fun _ h=> .inr h
    foreign:=fun b hb=>hml b ((hF'i b).1 hb).1
    apart:=fun g hg h=>((hF'i g).1 h).2 hg }
  have hA':All2 (Den w (Mut F' ρ σ) ρ) x vals:=hA.imp fun y u hd=>hd.keep (Keep.same (by
    rintro b _ (hb|hb)
    · exact((hF'i b).1 hb).1
    · exact hDm b (.inr ((hD b).2 (.inr hb))))) fun id g h=>by simp at h
  obtain⟨S1,hfz⟩:=putPs_slots (tm:=a.tmps) ps.toList hxl hA' ⟨S.len,S.get⟩
  have htm:(Array.zip ps vals.toArray).foldl (fun tmps (t,a)=>tmps.setIfInBounds t a) a.tmps=(ps.toList.zip vals).foldl (fun t (p,v)=>t.setIfInBounds p v) a.tmps:=by
    rw[← Array.foldl_toList]
    simp
  simp only[offPs,List.all_eq_true,List.mem_append,Bool.not_eq_true',List.contains_eq_mem,decide_eq_false_iff_not] at hoff
  let X:XS:={ fz:=fun i=>if i ∈ ins then a.tmps[i]? else none,n0:=0 }
  have hXa: ∀d ∈ dsts assign,X.fz d=none:=fun d hd=>if_neg (hoff d (.inr (.inl hd)))
  have hXb: ∀d ∈ dsts body,X.fz d=none:=fun d hd=>if_neg (hoff d (.inr (.inr hd)))
  have R1:Rel X F' w (LMut ρ σ) ρ0 ⟨putPs ps.toList x (spread E.n ins vs σ).t,σ⟩ { tmps:=(Array.zip ps vals.toArray).foldl (fun tmps (t,a)=>tmps.setIfInBounds t a) a.tmps,defers:=[] } w:=by
    rw[htm]
    refine⟨ρ,hI0,S1,⟨⟨Nat.zero_le _,Nat.zero_le _,fun _ _=> .inl trivial⟩,[],rfl,List.nodup_nil,fun D h=>by simp at h⟩,fun i v hv=> ?_⟩
    by_cases hi:i ∈ ins
    · rw[show X.fz i=a.tmps[i]? from if_pos hi] at hv
      dsimp only
      rw[hfz i fun hip=>hoff i (.inl hip) hi]
      exact hv
    · rw[show X.fz i=none from if_neg hi] at hv
      cases hv
  refine wpIn_n (r:=some l) (ha _ _ _ _ _ _ _ _ _ _ hXa (.inr hna) hev R1 ?_)
  rintro F1 hF1 e s2 a1 w1 hk2 R2
  cases e
  case exit=>exact hk2.elim
  case ret=>exact hk2.elim
  dsimp only at hk2
  obtain⟨ρ1,I1,S2,side1⟩:=R2
  have hl1:w1.heap[l]? = some (.loop (recOf fn a ps assign body dblk .ready none)):=(I1.blk l hll hl).trans h1
  have hd1:w1.heap[dblk]? = some (.deferred (some [])):=(I1.blk dblk hdl hd).trans h2
  refine⟨_,run_beginRound hl1 rfl,?_⟩
  have hlF:F1 l:=hF1 l ((hF'i l).2 ⟨hDm l (.inl rfl),hl⟩)
  have hdF:F1 dblk:=hF1 dblk ((hF'i dblk).2 ⟨hDm dblk (.inr ((hD _).2 (.inl rfl))),hd⟩)
  have hl1':¬LMut ρ1 s2.σ l:=fun h=>I1.apart l h hlF
  have hd1':¬LMut ρ1 s2.σ dblk:=fun h=>I1.apart dblk h hdF
  generalize hw2:w1.putObj l (.loop { recOf fn a ps assign body dblk .ready none with state:= .busy })=w2 at *
  have hs2:w2.heap.size=w1.heap.size:=by rw[← hw2];simp
  have ho2: ∀b,b≠l→w2.heap[b]? = w1.heap[b]? := fun b hb=>by rw[← hw2];exact World.putObj_heap_other hb
  have hsh2: ∀b,w2.shape? b=w1.shape? b:=fun b=>by rw[← hw2];exact shape_putObj hl1 b
  have hl2:w2.heap[l]? = some (.loop { recOf fn a ps assign body dblk .ready none with state:= .busy }):=by rw[← hw2];exact World.putObj_heap_same (Array.getElem?_eq_some_iff.1 hl1).1
  have hll1:l<w1.heap.size:=(Array.getElem?_eq_some_iff.1 hl1).1
  have hdl1:dblk<w1.heap.size:=(Array.getElem?_eq_some_iff.1 hd1).1
  have K12:Keep (Mut F1 ρ1 s2.σ) (Mut F1 ρ1 s2.σ) w1 w2:=⟨by omega,fun b _ hb=>ho2 b fun e=>hb (.inl (e ▸ hlF)),fun _ _ h=>h,fun b _=>hsh2 b⟩
  have I2:Inv F1 w2 (LMut ρ1 s2.σ) ρ0 ρ1 s2.σ w2:={
    heap:=⟨I1.heap.len,fun id b g n e1 e2 e3=>by
      obtain⟨a1,a2,a3⟩:=I1.heap.live id b g n e1 e2 e3
      exact⟨a1.keep K12 (fun _ _ h=>h) fun k hk=>ho2 k fun e=>hl1' (e ▸ ⟨id,b,n,g,e1,e3,e2,hk⟩),a2,by omega⟩,fun id b g n k e1 e2 e3 e4=>by have:=I1.heap.lt id b g n k e1 e2 e3 e4;omega,I1.heap.inj',I1.heap.glob.keep K12⟩
    pre:=I1.pre
    os:=rfl
    tape:=rfl
    output:=rfl
    size:=Nat.le_refl _
    blk:=fun _ _ _=>rfl
    shape:=fun _ _=>rfl
    fresh:=fun _ h=> .inr h
    foreign:=fun b hb=>by have:=I1.foreign b hb;omega
    apart:=I1.apart }
  have side2:Side X F1 a1 w2:=by
    obtain⟨⟨_,Ds,g1,g2,g3⟩,g4⟩:=side1
    refine⟨⟨⟨Nat.zero_le _,Nat.zero_le _,fun _ _=> .inl trivial⟩,Ds,g1,g2,fun D hD=>⟨(g3 D hD).1,⟨Nat.zero_le _,.inl trivial⟩,(ho2 D fun e=> ?_).trans (g3 D hD).2.2⟩⟩,g4⟩
    have:=(g3 D hD).2.2
    rw[e,hl1] at this
    cases this
  refine wpIn_n (r:=some l) (hb _ _ _ _ _ s2 _ a1 w2 _ hXb (.inr hnb) hk2 ⟨ρ1,I2,S2.keep K12 (fun _ _ h=>h),side2⟩ ?_)
  rintro F3 hF3 e s3 a3 w3 hk3 R3
  split at hk3
  case isFalse=>exact hk3.elim
  rename_i hlen
  obtain⟨ρ3,I3,S3,side3⟩:=R3
  obtain⟨ρ4,I4,S4,_⟩:=I3.head S3 hm0 hlen ins
  generalize headV E.m ins s3=vs4 at *
  generalize headB E.m ins s3=σ4 at *
  have hl3:w3.heap[l]? = some (.loop { recOf fn a ps assign body dblk .ready none with state:= .busy }):=(I4.blk l (by omega) hl1').trans hl2
  have hd3:w3.heap[dblk]? = some (.deferred (some [])):=(I4.blk dblk (by omega) hd1').trans ((ho2 dblk fun e=>hld e.symm).trans hd1)
  have hl4':¬LMut ρ4 σ4 l:=fun h=>I4.apart l h (hF3 l hlF)
  have hd4':¬LMut ρ4 σ4 dblk:=fun h=>I4.apart dblk h (hF3 dblk hdF)
  have hfr: ∀b,LMut ρ4 σ4 b→b<w.heap.size→LMut ρ σ b:=fun b h hb=>by
    rcases I4.fresh b h with h|h
    · have:=I1.size
      omega
    · rcases I1.fresh b h with h|h
      · omega
      · exact h
  have hblk: ∀b,b<w.heap.size→¬(b=l∨D b)→w3.heap[b]? = w.heap[b]? := fun b hb hn=>by
    have hn1:¬LMut ρ σ b:=fun h=>hn (.inr ((hD b).2 (.inr h)))
    rw[I4.blk b (by have:=I1.size;omega) fun h=> ?_,ho2 b fun e=>hn (.inl e),I1.blk b hb hn1]
    rcases I1.fresh b h with h|h
    · omega
    · exact hn1 h
  have fin: ∀(jump:Option Code),(match (if jump.isNone then some rest else none) with
     |some rest=>(if jump.isNone then LoopState.ready else .done)= .ready∧jump=none∧G rest vs4 σ4 k
     |none=>(if jump.isNone then LoopState.ready else .done)= .done∧ ∃e,e≠ .normal∧jump=some (jumpOf e)∧k e vs4 σ4)→
     ∃v w',(Instr.endRound l jump).run E.P w3= .ok v w'∧ ∃(c:Bool) (D':Nat→Prop),(Ending.returned v)= .returned (.bool c)∧
      RJ E ρ0 ins G k a l dblk fn ps assign body (fun k=>(m k∧¬(k=l∨D k))∨(k=l∨D' k)) D' (if c then some rest else none) w'∧(∀k,D' k→(k<w.heap.size→D k)∧k<w'.heap.size)∧
      w.heap.size≤w'.heap.size∧(∀k,k<w.heap.size→¬(k=l∨D k)→w'.heap[k]? = w.heap[k]?)∧(∀k,k<w.heap.size→w'.shape? k=w.shape? k)∧w'.os=w.os∧w'.tape=w.tape∧w'.output=w.output:=by
    intro jump hj
    have hrun:=run_endRound (P:=E.P) jump hl3
    refine⟨_,_,hrun,jump.isNone,fun k=>k=dblk∨LMut ρ4 σ4 k,rfl,?_⟩
    generalize hw4:w3.putObj l _=w4
    have hs4:w4.heap.size=w3.heap.size:=by rw[← hw4];simp
    have ho4: ∀b,b≠l→w4.heap[b]? = w3.heap[b]? := fun b hb=>by rw[← hw4];exact World.putObj_heap_other hb
    have hsh4: ∀b,w4.shape? b=w3.shape? b:=fun b=>by rw[← hw4];exact shape_putObj hl3 b
    have hl4:w4.heap[l]? = some (.loop (recOf fn a ps assign body dblk (if jump.isNone then .ready else .done) jump)):=by rw[← hw4];exact World.putObj_heap_same (Array.getElem?_eq_some_iff.1 hl3).1
    have K34:Keep (Mut F3 ρ4 σ4) (Mut (fun b=>((m b∧¬(b=l∨D b))∨(b=l∨(b=dblk∨LMut ρ4 σ4 b)))∧¬LMut ρ4 σ4 b) ρ4 σ4) w3 w4:=by
      refine⟨by omega,fun b _ hb=>ho4 b fun e=>hb (.inl (e ▸ hF3 l hlF)),?_,fun b _=>hsh4 b⟩
      rintro b _ (⟨⟨h,h'⟩|rfl|rfl|h,hn⟩|h)
      · exact .inl (hF3 b (hF1 b ((hF'i b).2 ⟨h,fun hx=>h' (.inr ((hD b).2 (.inr hx)))⟩)))
      · exact .inl (hF3 _ hlF)
      · exact .inl (hF3 _ hdF)
      · exact absurd h hn
      · exact .inr h
    refine⟨⟨ρ4,vs4,σ4,(if jump.isNone then .ready else .done),jump,⟨I4.heap.len,?_,?_,I4.heap.inj',I4.heap.glob.keep K34⟩,I4.pre,⟨?_,?_⟩,fun _=>Iff.rfl,hl4',hd4',hl4,(ho4 dblk fun e=>hld e.symm).trans hd3,hj⟩,?_,?_,?_,?_,?_,?_,?_⟩
    · intro id b g n e1 e2 e3
      obtain⟨a1,a2,a3⟩:=I4.heap.live id b g n e1 e2 e3
      exact⟨a1.keep K34 (fun _ _ h=>h) fun k hk=>ho4 k fun e=>hl4' (e ▸ ⟨id,b,n,g,e1,e3,e2,hk⟩),a2,by omega⟩
    · intro id b g n k e1 e2 e3 e4
      have:=I4.heap.lt id b g n k e1 e2 e3 e4
      omega
    · simp[spread,hsz]
    · intro i v hv
      have hi:i<E.n:=by
        have:=(List.getElem?_eq_some_iff.1 hv).1
        simpa [spread] using this
      by_cases hin:i ∈ ins
      · obtain⟨u,g1,g2⟩:=S4.get i v hv
        refine⟨u,?_,g2.keep K34 fun _ _ h=>h⟩
        have h5:X.fz i=some a.tmps[i]:=by
          show(if i ∈ ins then a.tmps[i]? else none)=_
          rw[if_pos hin,Array.getElem?_eq_getElem (by omega)]
        have h6:=side3.2 i _ h5
        rw[g1] at h6
        rw[Array.getElem?_eq_getElem (by omega)]
        exact h6.symm
      · refine⟨a.tmps[i],Array.getElem?_eq_getElem (by omega),?_⟩
        simp only[spread,List.getElem?_map,List.getElem?_range hi,Option.map_some,Option.some.injEq] at hv
        split at hv
        · rename_i j hj
          exact absurd (List.mem_of_getElem? (pos_get hj)) hin
        · subst hv;trivial
    · rintro b (rfl|h)
      · exact⟨fun _=>(hD _).2 (.inl rfl),by have:=I1.size;have:=I4.size;omega⟩
      · exact⟨fun hb=>(hD _).2 (.inr (hfr b h hb)),by have:=LMut.lt I4.heap h;omega⟩
    · have:=I1.size;have:=I4.size;omega
    · intro b hb hn
      rw[ho4 b fun e=>hn (.inl e),hblk b hb hn]
    · intro b hb
      rw[hsh4,I4.shape b (by have:=I1.size;omega),hsh2,I1.shape b hb]
    · rw[← hw4];show w3.os=_;rw[I4.os,← hw2];exact I1.os
    · rw[← hw4];show w3.tape=_;rw[I4.tape,← hw2];exact I1.tape
    · rw[← hw4];show w3.output=_;rw[I4.output,← hw2];exact I1.output
  cases e with
  |normal=>exact fin none ⟨rfl,rfl,hk3⟩
  |ret=>exact fin (some .ret) ⟨rfl,.ret,by simp,rfl,hk3⟩
  |exit id=>exact fin (some (.exit id)) ⟨rfl,.exit id,by simp,rfl,hk3⟩
end
end Go.Ev
namespace Go.Ev
open Go Go.RowKit
variable [Glob]
theorem posS_get{L:List Nat}{i j:Nat}(h:posS L i=some j): ∃j',j=j'+1∧L[j']? = some i:=by
 unfold posS at h
 cases hp:pos L i with
 |none=>rw[hp] at h;simp at h
 |some j'=>rw[hp] at h;simp at h;exact⟨j',h.symm,pos_get hp⟩
structure RangeOK(E:Env)(f:FuncId)(Sq:SeqSpec)(ps:List Tmp)(assign body:Code)(ins:List Nat)(G:List (List AV)→LSpec):Prop where
 seq:SpecOK E.P f (seqSpec E.P Sq)
 step: ∀x rest vs σ k,G (x::rest) vs σ k→evRound E ps assign body ins vs σ x fun e vs' σ'=>match e with
   |.normal=>G rest vs' σ' k
   |e=>k e vs' σ'
 done: ∀vs σ k,G [] vs σ k→k .normal vs σ
section
variable {E:Env} {ρ0:List (Nat × Nat)} {X:XS} {F:Nat→Prop} {w0 w:World} {m0:Nat→Prop} {s:St} {a:Act} {g:Operand} {ps:Array Tmp} {assign body:Code}
theorem capsDen{m m':Nat→Prop}{ρ ρ':List (Nat × Nat)}{h:Nat→Option Nat}(hf: ∀i j,h i=some j→ ∀g,ρ[i]? = some g→ρ'[j]? = some g){w w':World}(K:Keep m m' w w'): ∀{cap:List Nat} {gs:List (Nat × Nat)},cap.map (ρ[·]?)=gs.map some→
  All2 (Den w' m' ρ') ((capAV cap).map (mapIdsA h)) (gs.map fun g=>Value.pointer (some ⟨g.1,0,none⟩))
 |[],[],_=>trivial
 |[],_::_,h=>by simp at h
 |_::_,[],h=>by simp at h
 |c::cap,q::gs,h1=>by
  simp only[List.map_cons,List.cons.injEq] at h1
  refine⟨?_,capsDen hf K h1.2⟩
  have hd:Den w m ρ (.one (.ptr c 1 0 0)) (Value.pointer (some ⟨q.1,0,none⟩)):=⟨q.1,q.2,h1.1,by simp⟩
  exact Den_re hf (.inr fun _ _ h=>h) (hd.keep K fun _ _ h=>h)
theorem seqSpec_intro{P:Program}{Sq:SeqSpec}{caps:List AV}{lent:List Blk}{xs:List (List AV)}{J:GJ}{D:Nat→Prop}{K:AV→List Blk→Prop}(h:Sq caps lent=some (true,xs))
  (hK: ∀D' lent',K (.tup []) (.ghost P J D' (some [])::lent')∧K (.tup []) (.ghost P J D' none::lent')):seqSpec P Sq (.one (.yld 0)::caps) (.ghost P J D (some xs)::lent) K:=by
 show(match Sq caps lent with
  |some (c,xs')=>cond c (P=P∧xs=xs'∧ ∀D' lent',K (.tup []) (.ghost P J D' (some [])::lent')∧K (.tup []) (.ghost P J D' none::lent')) False
  |none=>False)
 rw[h]
 exact⟨rfl,rfl,hK⟩
set_option maxHeartbeats 2000000 in
theorem range_sound(hS: ∀f S,E.specs f=some S→SpecOK E.P f S)(hm:ρ0.length=E.m)(ha:Sound E ρ0 assign)(hb:Sound E ρ0 body)
  (hR: ∀f Sq ins G,E.loops (keyOf (.rangeFunc g ps assign body))=some (.range f Sq ins G)→RangeOK E f Sq ps.toList assign body ins G)
  {k:Ex→St→Prop} {Q:Exit→Act→World→Prop} (h:evCode E (.rangeFunc g ps assign body) s k) (R:Rel X F w0 m0 ρ0 s a w)
  (hQ: ∀(F':Nat→Prop),(∀b,F b→F' b)→ ∀e s' a' w',k e s'→Rel X F' w0 m0 ρ0 s' a' w'→Q (toExit e) a' w'):(Code.rangeFunc g ps assign body).wpIn (wideR none) 0 E.P Q a w:=by
 obtain⟨ρ,I,S,hside⟩:=R
 simp only[evCode] at h
 split at h
 case h_2=>exact h.elim
 rename_i f cap hg
 split at h
 case h_2=>exact h.elim
 rename_i f' Sq ins G hlp
 split at h
 case isFalse=>exact h.elim
 rename_i hc
 obtain⟨rfl,hn,hc⟩:=hc
 simp only[Bool.and_eq_true] at hc
 obtain⟨hLs,hoff,hna,hnb⟩:=hc
 split at h
 case h_2=>exact h.elim
 rename_i c xs hSq
 obtain⟨rfl,hG⟩:=cond_pos h
 clear h
 have hRO:=hR f' Sq ins G hlp
 have hgd:=ops_den S g
 rw[hg] at hgd
 obtain⟨gs,hgs,hge⟩:=hgd
 obtain⟨hLn,hLl⟩:(reach s.σ 64 cap []).Nodup∧ ∀i ∈ reach s.σ 64 cap [],i<s.σ.length:=reach_ok 64 _ [] (by simp) (by simp)
 generalize reach s.σ 64 cap []=L at *
 have hlen:=I.heap.len
 obtain⟨Ik,hkM⟩:=I.kill L
 generalize hF1:(fun b=>F b∨(LMut ρ s.σ b∧¬LMut ρ (killAll L s.σ) b))=F1 at *
 have hF1i: ∀b,F1 b↔F b∨(LMut ρ s.σ b∧¬LMut ρ (killAll L s.σ) b):=fun b=>by rw[← hF1]
 obtain⟨ρ',I',S',hlm⟩:=Inv.head (s:=⟨s.t,killAll L s.σ⟩) Ik (S.anti fun b _ hb=>hkM b hb) hm hn ins
 generalize headV E.m ins ⟨s.t,killAll L s.σ⟩=vs at *
 generalize headB E.m ins ⟨s.t,killAll L s.σ⟩=σ at *
 have hlmk: ∀b,LMut ρ' σ b→LMut ρ s.σ b:=fun b hb=>by
  obtain⟨id,c,n,g,h1,h2,h3,h4⟩:=hlm b hb
  exact⟨id,c,n,g,(killAll_live _ _ h1 h2).1,h2,h3,h4⟩
 have hlen':a.tmps.size=E.n:=by rw[← S.len];exact hn
 refine wpIn_rangeFunc fun fn _=> ?_
 generalize hdb:w.heap.size=db
 generalize hld:db+1=l
 generalize hW1:(w.alloc (.deferred (some []))).alloc (.loop (recOf fn a ps assign body db .ready none))=W1
 have hs1:W1.heap.size=l+1:=by rw[← hW1];simp;omega
 have hL1:W1.heap[l]? = some (.loop (recOf fn a ps assign body db .ready none)):=by
  rw[← hW1,← hld,← hdb];have:=World.alloc_heap_new (w.alloc (.deferred (some []))) (.loop (recOf fn a ps assign body w.heap.size .ready none));rwa [World.size_alloc] at this
 have hold: ∀b,b<w.heap.size→W1.heap[b]? = w.heap[b]? := fun b hb=>by
  rw[← hW1]
  show((w.heap.push _).push _)[b]? = _
  rw[Array.getElem?_push,if_neg (by simp;omega),Array.getElem?_push,if_neg (by omega)]
 have hD1:W1.heap[db]? = some (.deferred (some [])):=by
  rw[← hW1,← hdb]
  show((w.heap.push _).push _)[w.heap.size]? = _
  rw[Array.getElem?_push,if_neg (by simp),Array.getElem?_push,if_pos rfl]
 have hos1:W1.os=w.os∧W1.tape=w.tape∧W1.output=w.output:=by rw[← hW1];exact⟨rfl,rfl,rfl⟩
 let D0:Nat→Prop:=fun b=>b=db∨LMut ρ' σ b
 let J:=RJ E ρ0 ins G (fun e vs σ=>k e (spread E.n ins vs σ)) a l db fn ps assign body
 let ρi:List (Nat × Nat):=(l,0)::L.map fun i=>ρ.getD i (0,0)
 let σi:List Blk:= .ghost E.P J D0 (some xs)::selS s.σ L
 have hρi: ∀(i j:Nat) (q:Nat × Nat),posS L i=some j→(ρ[i]? = some q↔ρi[j]? = some q):=by
  intro i j q hp
  obtain⟨j',rfl,hj⟩:=posS_get hp
  have hi:=hLl i (List.mem_of_getElem? hj)
  show _↔((l,0)::L.map fun i=>ρ.getD i (0,0))[j'+1]? = some q
  rw[List.getElem?_cons_succ,List.getElem?_map,hj]
  simp only[Option.map_some,Option.some.injEq]
  rw[List.getElem?_eq_getElem (by omega)]
  simp[List.getD,List.getElem?_eq_getElem (show i<ρ.length by omega)]
 have hσi: ∀(j:Nat) (b:Blk) (q:Nat × Nat),σi[j+1]? = some b→ρi[j+1]? = some q→ ∃i b',i ∈ L∧L[j]? = some i∧s.σ[i]? = some b'∧b=mapIdsB (posS L) b'∧ρ[i]? = some q:=by
  intro j b q hb hq
  have hb':(selS s.σ L)[j]? = some b:=hb
  have hq':(L.map fun i=>ρ.getD i (0,0))[j]? = some q:=hq
  unfold selS at hb'
  rw[List.getElem?_map] at hb' hq'
  cases hj:L[j]? with
  |none=>rw[hj] at hb';simp at hb'
  |some i=>
   rw[hj] at hb' hq'
   simp only[Option.map_some,Option.some.injEq] at hb' hq'
   have hi:=hLl i (List.mem_of_getElem? hj)
   refine⟨i,s.σ[i],List.mem_of_getElem? hj,rfl,List.getElem?_eq_getElem hi,?_,?_⟩
   ·rw[← hb']
    simp[List.getElem?_eq_getElem hi]
   ·rw[← hq',List.getElem?_eq_getElem (by omega)]
    simp[List.getD,List.getElem?_eq_getElem (show i<ρ.length by omega)]
 have hLMi: ∀b,LMut ρi σi b→(b=l∨D0 b)∨ ∃i c n q,i ∈ L∧s.σ[i]? = some c∧c.live=true∧ρ[i]? = some (q,n)∧c.owns q b:=by
  rintro b ⟨j,c,n,q,h1,h2,h3,h4⟩
  cases j with
  |zero=>
   simp only[ρi,σi,List.getElem?_cons_zero,Option.some.injEq,Prod.mk.injEq] at h1 h3
   subst h1
   obtain⟨rfl,rfl⟩:=h3
   exact .inl h4
  |succ j=>
   obtain⟨i,b',h5,_,h6,rfl,h7⟩:=hσi j c _ h1 h3
   exact .inr ⟨i,b',n,q,h5,h6,by rw[← (mapIdsB_count (f:=posS L) b').2];exact h2,h7,(mapIdsB_owns b').1 h4⟩
 have hown: ∀b,(b=l∨D0 b)→LMut ρi σi b:=fun b hb=>⟨0,_,0,l,rfl,rfl,rfl,hb⟩
 have hlentN: ∀i c n q b,i ∈ L→s.σ[i]? = some c→c.live=true→ρ[i]? = some (q,n)→c.owns q b→¬LMut ρ' σ b:=by
  intro i c n q b h1 h2 h3 h4 h5 h6
  obtain⟨i',c',n',q',e1,e2,e3,e4⟩:=hlm b h6
  obtain⟨e5,e6⟩:=killAll_live _ _ e1 e2
  exact e6 ((I.heap.inj' i i' c c' q q' n n' b h2 e5 h3 e2 h4 e3 h5 e4) ▸ h1)
 have hLMw: ∀b,LMut ρi σi b→b<w.heap.size→LMut ρ s.σ b:=by
  intro b hb hlt
  rcases hLMi b hb with(rfl|rfl|h)|⟨i,c,n,q,h1,h2,h3,h4,h5⟩
  ·omega
  ·omega
  ·exact hlmk b h
  ·exact⟨i,c,n,q,h2,h3,h4,h5⟩
 have hMlt: ∀b,Mut F ρi σi b→b<W1.heap.size:=by
  rintro b (h|h)
  ·have:=I.foreign b h;omega
  ·rcases hLMi b h with(rfl|rfl|h)|⟨i,c,n,q,h1,h2,h3,h4,h5⟩
   ·omega
   ·omega
   ·have:=LMut.lt I.heap (hlmk b h);omega
   ·have:=I.heap.lt i c q n b h2 h4 h3 h5;omega
 have hKw: ∀{m m':Nat→Prop},(∀b,b<w.heap.size→m' b→m b)→Keep m m' w W1:=fun hm=>⟨by omega,fun b hb _=>hold b hb,hm,fun b hb=>by unfold World.shape?;rw[hold b hb]⟩
 have Kw:Keep (Mut F ρ s.σ) (Mut F ρi σi) w W1:=hKw fun b hb h=>h.imp_right fun h=>hLMw b h hb
 have hnl: ∀b,b<w.heap.size→b≠l:=fun b hb e=>by omega
 have hbl:¬LMut ρ' σ l:=fun h=>by have:=LMut.lt I.heap (hlmk _ h);omega
 have hbd:¬LMut ρ' σ db:=fun h=>by have:=LMut.lt I.heap (hlmk _ h);omega
 have hlne:l≠db:=by omega
 have hproto:Proto E.P l J:=⟨fun m m' D r w w' h K hh=>RJ.keep m m' D r w w' h K hh,fun m D x rest w vals hJ hml hDm hA=>by
   obtain⟨q1,q2,q3,q4,q5,q6⟩:=RJ.round hm hlen' ha hb hna hnb hoff hlne hRO.step m D x rest w vals hJ hml hDm hA
   exact⟨q1,q2,q3,q4,q5,fun n=>q6 n⟩⟩
 have hJ1:J (Mut F ρi σi) D0 (some xs) W1:=by
  have K1:Keep (Mut F1 ρ' σ) (Mut (fun b=>Mut F ρi σi b∧¬LMut ρ' σ b) ρ' σ) w W1:=hKw fun b hb h=>by
   rcases h with⟨h|h,hn⟩|h
   ·exact .inl ((hF1i b).2 (.inl h))
   ·rcases hLMi b h with(rfl|rfl|h')|⟨i,c,n,q,h1,h2,h3,h4,h5⟩
    ·omega
    ·omega
    ·exact .inr h'
    ·refine .inl ((hF1i b).2 (.inr ⟨⟨i,c,n,q,h2,h3,h4,h5⟩,?_⟩))
     rintro ⟨i',c',n',q',e1,e2,e3,e4⟩
     obtain⟨e5,e6⟩:=killAll_live _ _ e1 e2
     exact e6 ((I.heap.inj' i i' c c' q q' n n' b h2 e5 h3 e2 h4 e3 h5 e4) ▸ h1)
   ·exact .inr h
  refine⟨ρ',vs,σ,.ready,none,⟨I'.heap.len,fun id b g n e1 e2 e3=> ?_,fun id b g n k e1 e2 e3 e4=>by have:=I'.heap.lt id b g n k e1 e2 e3 e4;omega,I'.heap.inj',I'.heap.glob.keep K1⟩,I'.pre,S'.keep K1 (fun _ _ h=>h),fun _=>Iff.rfl,hbl,hbd,hL1,hD1,rfl,rfl,hG⟩
  obtain⟨a1,a2,a3⟩:=I'.heap.live id b g n e1 e2 e3
  exact⟨a1.keep K1 (fun _ _ h=>h) fun k hk=>hold k (I'.heap.lt id b g n k e1 e2 e3 hk),a2,by omega⟩
 have Hi:HeapOk F ρi σi W1:=by
  refine⟨by simp[ρi,σi,selS],?_,?_,?_,?_⟩
  ·intro j b q n h1 h2 h3
   cases j with
   |zero=>
    simp only[ρi,σi,List.getElem?_cons_zero,Option.some.injEq,Prod.mk.injEq] at h1 h2
    subst h1
    obtain⟨rfl,rfl⟩:=h2
    exact⟨⟨hJ1,hproto⟩,rfl,by omega⟩
   |succ j=>
    obtain⟨i,b',h5,h5',h6,rfl,h7⟩:=hσi j b _ h1 h2
    have hl':b'.live=true:=by rw[← (mapIdsB_count (f:=posS L) b').2];exact h3
    obtain⟨a1,a2,a3⟩:=I.heap.live i b' q n h6 h7 hl'
    exact⟨DenBlk_re (fun i j hp g hg=>(hρi i j g hp).1 hg) (.inr fun _ _ h=>h) (a1.keep Kw (fun _ _ h=>h) fun k hk=>hold k (I.heap.lt i b' q n k h6 h7 hl' hk)),by rw[(mapIdsB_count b').1,a2],by omega⟩
  ·intro j b q n k' h1 h2 h3 h4
   exact hMlt k' (.inr ⟨j,b,n,q,h1,h3,h2,h4⟩)
  ·intro i j b b' q q' n n' k' h1 h2 h3 h4 h5 h6 h7 h8
   have one: ∀(j:Nat) (b:Blk) (q n:Nat),σi[j+1]? = some b→b.live=true→ρi[j+1]? = some (q,n)→b.owns q k'→(k'=l∨D0 k')→False:=by
    intro j b q n e1 e2 e3 e4 e5
    obtain⟨i,b',g1,_,g2,rfl,g3⟩:=hσi j b _ e1 e3
    have hl':b'.live=true:=by rw[← (mapIdsB_count (f:=posS L) b').2];exact e2
    have ho:=(mapIdsB_owns b').1 e4
    have:=I.heap.lt i b' q n k' g2 g3 hl' ho
    rcases e5 with rfl|rfl|e5
    ·omega
    ·omega
    ·exact hlentN i b' n q k' g1 g2 hl' g3 ho e5
   cases i with
   |zero=>
    cases j with
    |zero=>rfl
    |succ j=>
     exfalso
     simp only[ρi,σi,List.getElem?_cons_zero,Option.some.injEq,Prod.mk.injEq] at h1 h5
     subst h1
     obtain⟨rfl,rfl⟩:=h5
     exact one j b' q' n' h2 h4 h6 h8 h7
   |succ i=>
    cases j with
    |zero=>
     exfalso
     simp only[ρi,σi,List.getElem?_cons_zero,Option.some.injEq,Prod.mk.injEq] at h2 h6
     subst h2
     obtain⟨rfl,rfl⟩:=h6
     exact one i b q n h1 h3 h5 h7 h8
    |succ j=>
     obtain⟨i1,c1,g1,g1',g2,rfl,g3⟩:=hσi i b _ h1 h5
     obtain⟨i2,c2,g4,g4',g5,rfl,g6⟩:=hσi j b' _ h2 h6
     have e:=I.heap.inj' i1 i2 c1 c2 q q' n n' k' g2 g5 (by rw[← (mapIdsB_count (f:=posS L) c1).2];exact h3) (by rw[← (mapIdsB_count (f:=posS L) c2).2];exact h4) g3 g6 ((mapIdsB_owns c1).1 h7) ((mapIdsB_owns c2).1 h8)
     subst e
     have hil:=(List.getElem?_eq_some_iff.1 g1').1
     rw[(List.getElem?_inj hil hLn).1 (g1'.trans g4'.symm)]
  ·exact I.heap.glob.keep Kw
 have hFi: ∀b,F b→b<W1.heap.size∧¬LMut ρi σi b:=fun b hb=>by
  have h1:=I.foreign b hb
  exact⟨by omega,fun h=>I.apart b (hLMw b h h1) hb⟩
 have hargs:All2 (Den W1 (Mut F ρi σi) ρi) (.one (.yld 0)::(capAV cap).map (mapIdsA (posS L))) (Value.func (.yield l) #[] #[]::gs.map fun g=>Value.pointer (some ⟨g.1,0,none⟩)):=
  ⟨⟨l,0,rfl,rfl⟩,capsDen (fun i j hp g hg=>(hρi i j g hp).1 hg) Kw hgs⟩
 have hspec:seqSpec E.P Sq (.one (.yld 0)::(capAV cap).map (mapIdsA (posS L))) σi fun _ σ'=> ∃D' lent' r',σ'= .ghost E.P J D' r'::lent'∧(r'=some []∨r'=none):=by
  exact seqSpec_intro hSq fun D' lent'=>⟨⟨D',lent',_,rfl,.inl rfl⟩,⟨D',lent',_,rfl,.inr rfl⟩⟩
 have hcall:=hRO.seq.sound _ _ _ hspec F ρi _ W1 Hi hFi hargs
 obtain⟨fn',c',hfn,hbody,hname⟩:=hRO.seq.body
 refine⟨l,[{ target:= .collected db,args := #[] }],W1,{ target:= .fn (.func f') (gs.map fun g=>Value.pointer (some ⟨g.1,0,none⟩)).toArray,args := #[.func (.yield l) #[] #[]] },W1,f',(Value.func (.yield l) #[] #[]::gs.map fun g=>Value.pointer (some ⟨g.1,0,none⟩)).toArray,W1,?_,?_,fun _ _=>trivial,?_,fun h=>by simp[wideR,Fence.wide] at h,callsIn_wideR (hcall.mono ?_)⟩
 ·rw[← hW1,← hld,← hdb]
  exact run_enterLoop_outer fn a.tmps ps assign body
 ·have hcst: ∀v,a.eval (.const v)=v:=fun _=>rfl
  simp[resolve,hge,hcst,Deferred.ofValue]
 ·simp only[invoke,callFunc,Sem.run_bind,run_program,hfn,hname,hbody,Result.andThen_ok]
  simp[Sem.run_pure]
 rintro e w3 ⟨v,av,σ3,ρ3,rfl,⟨D',lent',r',rfl,hr'⟩,I3,K3,_⟩
 have hρ3:ρ3[0]? = some (l,0):=by
  obtain⟨q,hq⟩:=I3.pre
  rw[hq]
  rfl
 obtain⟨⟨hJ3,_⟩,_,_⟩:=I3.heap.live 0 _ l 0 rfl hρ3 rfl
 obtain⟨ρ4,vs4,σ4,st,pend,H4,hp4,S4,hD4,hl4,hd4,hrec,hdef,hrr⟩:=hJ3
 have hst:st≠ .busy:=by
  rcases hr' with rfl|rfl
  ·rw[hrr.1];simp
  ·rw[hrr.1];simp
 have hend:=run_endLoop (P:=E.P) hrec hst
 refine⟨pend,_,hend,?_⟩
 generalize hw4:w3.putObj l _=w4
 have hs4:w4.heap.size=w3.heap.size:=by rw[← hw4];simp
 have ho4: ∀b,b≠l→w4.heap[b]? = w3.heap[b]? := fun b hb=>by rw[← hw4];exact World.putObj_heap_other hb
 have hsh4: ∀b,w4.shape? b=w3.shape? b:=fun b=>by rw[← hw4];exact shape_putObj hrec b
 have hown3: ∀b,(b=l∨D' b)→LMut ρ3 (.ghost E.P J D' r'::lent') b:=fun b hb=>⟨0,_,0,l,rfl,rfl,hρ3,hb⟩
 have hLM4: ∀b,LMut ρ4 σ4 b→LMut ρ3 (.ghost E.P J D' r'::lent') b:=fun b hb=>hown3 b (.inr ((hD4 b).2 (.inr hb)))
 have hdl3:db<w3.heap.size:=(Array.getElem?_eq_some_iff.1 hdef).1
 let F4:Nat→Prop:=fun b=>F b∨b=db
 have K34:Keep (Mut (fun b=>Mut F ρ3 (.ghost E.P J D' r'::lent') b∧¬LMut ρ4 σ4 b) ρ4 σ4) (Mut F4 ρ4 σ4) w3 w4:=by
  refine⟨by omega,fun b _ hb=>ho4 b fun e=>hb (.inl ⟨.inr (hown3 b (.inl e)),e ▸ hl4⟩),?_,fun b _=>hsh4 b⟩
  rintro b _ ((h|rfl)|h)
  ·exact .inl ⟨.inl h,fun h'=>I3.apart b (hLM4 b h') h⟩
  ·exact .inl ⟨.inr (hown3 _ (.inr ((hD4 _).2 (.inl rfl)))),hd4⟩
  ·exact .inr h
 have hblk: ∀b,b<w.heap.size→¬LMut ρ s.σ b→w4.heap[b]? = w.heap[b]? := fun b hb hn=>by
  rw[ho4 b (hnl b hb),I3.blk b (by omega) fun h=>hn (hLMw b h hb),hold b hb]
 have I4:Inv F4 w0 m0 ρ0 ρ4 σ4 w4:={
  heap:=⟨H4.len,fun id b g n e1 e2 e3=>by
   obtain⟨a1,a2,a3⟩:=H4.live id b g n e1 e2 e3
   exact⟨a1.keep K34 (fun _ _ h=>h) fun k hk=>ho4 k fun e=>hl4 (e ▸ ⟨id,b,n,g,e1,e3,e2,hk⟩),a2,by omega⟩,fun id b g n k e1 e2 e3 e4=>by have:=H4.lt id b g n k e1 e2 e3 e4;omega,H4.inj',H4.glob.keep K34⟩
  pre:=hp4
  os:=by rw[← hw4];exact I3.os.trans (hos1.1.trans I.os)
  tape:=by rw[← hw4];exact I3.tape.trans (hos1.2.1.trans I.tape)
  output:=by rw[← hw4];exact I3.output.trans (hos1.2.2.trans I.output)
  size:=by have:=I.size;have:=I3.size;omega
  blk:=fun b hb hn=>by
   have h1:=I.size
   rw[hblk b (by omega) fun h=> ?_,I.blk b hb hn]
   rcases I.fresh b h with h|h
   ·omega
   ·exact hn h
  shape:=fun b hb=>by
   have h1:=I.size
   rw[hsh4,I3.shape b (by omega),← I.shape b hb]
   unfold World.shape?
   rw[hold b (by omega)]
  fresh:=fun b hb=>by
   have h1:=I.size
   rcases I3.fresh b (hLM4 b hb) with h|h
   ·exact .inl (by omega)
   ·rcases Nat.lt_or_ge b w.heap.size with hlt|hge
    ·exact I.fresh b (hLMw b h hlt)
    ·exact .inl (by omega)
  foreign:=fun b hb=>by
   rcases hb with hb|rfl
   ·have:=I3.foreign b hb;omega
   ·omega
  apart:=fun b hb h=>by
   rcases h with h|rfl
   ·exact I3.apart b (hLM4 b hb) h
   ·exact hd4 hb }
 have S4':Slots (Mut F4 ρ4 σ4) ρ4 (spread E.n ins vs4 σ4).t { a with defers:=[{ target:= .collected db,args := #[] }]++a.defers } w4:=
  ⟨(S4.keep K34 fun _ _ h=>h).len,(S4.keep K34 fun _ _ h=>h).get⟩
 have side4:Side X F4 { a with defers:=[{ target:= .collected db,args := #[] }]++a.defers } w4:=by
  obtain⟨⟨g0,Ds,g1,g2,g3⟩,g4⟩:=hside
  have h3:=I3.size
  refine⟨⟨⟨by have:=g0.1;omega,by have:=g0.2.1;omega,fun b hb=>hb.elim (g0.2.2 b) fun e=> .inr (by have:=g0.2.1;omega)⟩,db::Ds,by simp[g1],?_,?_⟩,g4⟩
  ·refine List.nodup_cons.2 ⟨fun hd=> ?_,g2⟩
   have:=(Array.getElem?_eq_some_iff.1 (g3 db hd).2.2).1
   omega
  ·intro D hD
   rcases List.mem_cons.1 hD with rfl|hD
   ·exact⟨.inr rfl,⟨by have:=g0.1;omega,.inr (by have:=g0.2.1;omega)⟩,(ho4 D (by omega)).trans hdef⟩
   ·obtain⟨e1,e2,e3⟩:=g3 D hD
    have hlt:=(Array.getElem?_eq_some_iff.1 e3).1
    exact⟨.inl e1,e2,(hblk D hlt fun h=>I.apart D h e1).trans e3⟩
 have R4:Rel X F4 w0 m0 ρ0 (spread E.n ins vs4 σ4) { a with defers:=[{ target:= .collected db,args := #[] }]++a.defers } w4:=⟨ρ4,I4,S4',side4⟩
 rcases hr' with rfl|rfl
 ·obtain⟨_,rfl,hGe⟩:=hrr
  exact hQ F4 (fun b h=> .inl h) .normal _ _ _ (hRO.done _ _ _ hGe) R4
 ·obtain⟨_,e,hne,rfl,hke⟩:=hrr
  cases e with
  |normal=>exact absurd rfl hne
  |ret=>exact wpIn_ret (hQ F4 (fun b h=> .inl h) .ret _ _ _ hke R4)
  |exit id=>exact wpIn_exit (hQ F4 (fun b h=> .inl h) (.exit id) _ _ _ hke R4)
end
end Go.Ev
