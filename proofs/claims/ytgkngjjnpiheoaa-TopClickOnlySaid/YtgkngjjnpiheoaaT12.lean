/-
  Part of the proof that TopClickOnly holds.
-/
import Derived.Test.YtgkngjjnpiheoaaT11
set_option linter.unusedVariables false
set_option linter.unusedSimpArgs false
set_option linter.unusedSectionVars false
namespace Go.Ev
open Go Go.RowKit
variable [Glob]
def Edge(ops:Array Oper)(i j:Nat):Prop:= ∃o,ops[j]? = some o∧ ∃e ∈ o.after,Region.binds .any e=true∧e.on=i
inductive Before(ops:Array Oper):Nat→Nat→Prop where
 |one {i j:Nat}:Edge ops i j→Before ops i j
 |trans {i k j:Nat}:Before ops i k→Edge ops k j→Before ops i j
def On(L:Array Bool)(i:Nat):Prop:=L.getD i false=true
def Closed(ops:Array Oper)(L:Array Bool):Prop:= ∀i j,Edge ops i j→On L j→On L i
section
variable {ops:Array Oper} {L Lc:Array Bool} {i j:Nat}
theorem mem_preds{o:Oper}:i ∈ preds o ↔ ∃e ∈ o.after,Region.binds .any e=true∧e.on=i:=by
 unfold preds
 simp only[List.mem_map,List.mem_filter,Array.mem_toList_iff]
 constructor
 ·rintro ⟨e,⟨h1,h2⟩,h3⟩;exact⟨e,h1,h2,h3⟩
 ·rintro ⟨e,h1,h2,h3⟩;exact⟨e,⟨h1,h2⟩,h3⟩
theorem fold_bits{acc:List Nat}: ∀{l:List Nat} {s:Nat},(l.foldl (fun s p=>s ||| (1 <<< p) ||| acc.getD p 0) s).testBit i=true→
  s.testBit i=true∨ ∃p ∈ l,p=i∨(acc.getD p 0).testBit i=true
 |[],s,h=> .inl h
 |p::l,s,h=>by
  simp only[List.foldl_cons] at h
  rcases fold_bits h with h|⟨q,h1,h2⟩
  ·simp only[Nat.testBit_or,Bool.or_eq_true] at h
   rcases h with(h|h)|h
   ·exact .inl h
   ·refine .inr ⟨p,by simp,.inl ?_⟩
    rw[Nat.one_shiftLeft,Nat.testBit_two_pow] at h
    simpa using h
   ·exact .inr ⟨p,by simp,.inr h⟩
  ·exact .inr ⟨q,by simp[h1],h2⟩
theorem befs_sound: ∀(l:List Oper) (acc:List Nat),(∀n,n<l.length→l[n]? = ops[acc.length+n]?)→(∀j i,(acc.getD j 0).testBit i=true→Before ops i j)→
  ∀j i,((befs l acc).getD j 0).testBit i=true→Before ops i j
 |[],acc,_,h=>h
 |o::l,acc,hl,h=>by
  unfold befs
  refine befs_sound l _ (fun n hn=> ?_) ?_
  ·have:=hl (n+1) (by simp;omega)
   rw[List.getElem?_cons_succ] at this
   rw[this]
   congr 1
   simp
   omega
  ·intro j i hb
   rcases Nat.lt_trichotomy j acc.length with hj|rfl|hj
   ·refine h j i ?_
    rw[List.getD_eq_getElem?_getD,List.getElem?_append_left hj] at hb
    rw[List.getD_eq_getElem?_getD]
    exact hb
   ·rw[List.getD_eq_getElem?_getD,List.getElem?_append_right (by omega)] at hb
    simp at hb
    have ho:=hl 0 (by simp)
    simp at ho
    have edge: ∀p,p ∈ preds o→Edge ops p acc.length:=fun p hp=>⟨o,ho.symm,mem_preds.1 hp⟩
    rcases fold_bits hb with hb|⟨p,hp,rfl|hb⟩
    ·simp at hb
    ·exact .one (edge _ hp)
    ·exact .trans (h p i hb) (edge _ hp)
   ·rw[List.getD_eq_getElem?_getD,List.getElem?_eq_none (by simp;omega)] at hb
    simp at hb
theorem On.set(h:On L i):On (L.setIfInBounds j true) i:=getD_set_true h
theorem On.of_set(h:On (L.setIfInBounds j true) i):i=j∨On L i:=by
 by_cases hij:j=i
 ·exact .inl hij.symm
 ·unfold On at h;rw[getD_set_ne _ hij] at h;exact .inr h
theorem On.lt(h:On L i):i<L.size:=by
 unfold On at h
 rcases Nat.lt_or_ge i L.size with h'|h'
 ·exact h'
 ·simp[h'] at h
theorem On.self(h:j<L.size):On (L.setIfInBounds j true) j:=by
 unfold On;simp[h]
theorem ready_not(h:j ∈ Region.ready .any ops L):¬On L j:=fun h'=>by
 have h0:=(mem_ready.1 h).1
 have hl:=h'.lt
 unfold On at h'
 simp[hl] at h0 h'
 rw[h0] at h'
 cases h'
theorem ready_edge(h:j ∈ Region.ready .any ops L)(e:Edge ops i j):On L i:=by
 obtain⟨_,o,ho,hall⟩:=mem_ready.1 h
 obtain⟨o',ho',e',he,hb,rfl⟩:=e
 rw[ho] at ho'
 cases ho'
 exact hall e' he hb
theorem Closed.before(C:Closed ops L)(b:Before ops i j):On L j→On L i:=by
 induction b with
 |one e=>exact C _ _ e
 |trans _ e ih=>exact fun h=>ih (C _ _ e h)
theorem ready_before(h:j ∈ Region.ready .any ops L)(C:Closed ops L)(b:Before ops i j):On L i:=by
 cases b with
 |one e=>exact ready_edge h e
 |trans b e=>exact C.before b (ready_edge h e)
theorem Closed.set(C:Closed ops L)(h:j ∈ Region.ready .any ops L):Closed ops (L.setIfInBounds j true):=by
 intro a b e hb
 rcases hb.of_set with rfl|hb
 ·exact(ready_edge h e).set
 ·exact(C _ _ e hb).set
theorem freeOp_spec{bef:List Nat}(hb: ∀j i,(bef.getD j 0).testBit i=true→Before ops i j){o:Oper}{d:Nat}(hf:freeOp ops bef i=true)(ho:ops[i]? = some o)(hd:o.dst=some d):
  ∀p q,ops[p]? = some q→p≠i→(d ∈ q.looksAt ops∨q.dst=some d)→Before ops i p∨Before ops p i:=by
 unfold freeOp at hf
 rw[ho] at hf
 dsimp only at hf
 rw[hd] at hf
 simp only[List.all_eq_true,List.mem_range,Bool.or_eq_true,beq_iff_eq] at hf
 intro p q hq hne hn
 have:=hf p (Array.getElem?_eq_some_iff.1 hq).1
 rw[hq] at this
 dsimp only at this
 rcases this with((h|h)|h)|h
 ·exact absurd h hne
 ·simp at h
  rcases hn with hn|hn
  ·exact absurd hn h.1
  ·exact absurd hn h.2
 ·exact .inl (hb _ _ h)
 ·exact .inr (hb _ _ h)
theorem early_free{bef:List Nat}(h:early ops bef i=true):freeOp ops bef i=true:=by
 unfold early at h
 simp only[Bool.and_eq_true] at h
 exact h.2.1
theorem before_lt(hw:backward ops=true)(h:Before ops i j):i<j:=by
 have edge: ∀{i j},Edge ops i j→i<j:=by
  rintro i j ⟨o,ho,e,he,hbd,rfl⟩
  have:=List.all_eq_true.1 hw j (by simpa using(Array.getElem?_eq_some_iff.1 ho).1)
  rw[ho] at this
  simpa using List.all_eq_true.1 this e.on (mem_preds.2 ⟨e,he,hbd,rfl⟩)
 induction h with
 |one e=>exact edge e
 |trans _ e ih=>exact Nat.lt_trans ih (edge e)
end
def Guarded(ops:Array Oper)(s:St)(o:Oper)(b:Bool):Prop:=
 match o.guard with
 |none=>b=true
 |some (j,want)=> ∃d,(ops[j]?).bind (·.dst)=some d∧((∃x,s.t.getD d .any= .one (.bool x)∧b=(x==want))∨(s.t.getD d .any= .tup []∧b=false))
def Pd(L Lc:Array Bool)(p:Nat):Prop:=On L p∧¬On Lc p
def Wr(ops:Array Oper)(L Lc:Array Bool)(x q:Nat):Prop:=Pd L Lc q∧ ∃o,ops[q]? = some o∧o.dst=some x
def PendOK(ops:Array Oper)(bef:List Nat)(E:Env)(σ:List Blk)(snap:List AV)(v:AV)(p:Nat):Prop:= ∃o,ops[p]? = some o∧early ops bef p=true∧((Guarded ops ⟨snap,σ⟩ o true∧evM E.P ⟨snap,σ⟩ o.op=some (true,v))∨(Guarded ops ⟨snap,σ⟩ o false∧v=skipV))
structure RelP(X:XS)(F:Nat→Prop)(E:Env)(ops:Array Oper)(bef:List Nat)(w0:World)(m0:Nat→Prop)(ρ0 ρ:List (Nat × Nat))(snap:Nat→List AV)(val:Nat→AV)(L Lc:Array Bool)(s:St)(a:Act)(w:World):Prop where
 inv:Inv F w0 m0 ρ0 ρ s.σ w
 len:s.t.length=a.tmps.size
 get: ∀(x:Nat) (v:AV),s.t[x]? = some v→(∀p,¬Wr ops L Lc x p)→ ∃u,a.tmps[x]? = some u∧Den w (Mut F ρ s.σ) ρ v u
 side:Side X F a w
 offs: ∀(i:Nat) (o:Oper),ops[i]? = some o→Off X o
 pend: ∀p,Pd L Lc p→PendOK ops bef E s.σ (snap p) (val p) p
 slen: ∀p,Pd L Lc p→(snap p).length=a.tmps.size
 top: ∀x q,x<a.tmps.size→Wr ops L Lc x q→(∃q',Wr ops L Lc x q'∧Before ops q q')∨s.t[x]? = some (val q)
 look: ∀p o x v,Pd L Lc p→ops[p]? = some o→x ∈ o.looksAt ops→(snap p)[x]? = some v→(∃q,Wr ops L Lc x q∧Before ops q p)∨ ∃u,a.tmps[x]? = some u∧Den w (Mut F ρ s.σ) ρ v u
 link: ∀p o x q,Pd L Lc p→ops[p]? = some o→x ∈ o.looksAt ops→x<a.tmps.size→Wr ops L Lc x q→Before ops q p→(∃q',Wr ops L Lc x q'∧Before ops q q'∧Before ops q' p)∨(snap p)[x]? = some (val q)
 same: ∀p o x,Pd L Lc p→ops[p]? = some o→x ∈ o.looksAt ops→(∀q oq,ops[q]? = some oq→oq.dst=some x→Before ops q p)→(snap p)[x]? = s.t[x]?
 closed:Closed ops L
 closedc:Closed ops Lc
 sub: ∀i,On Lc i→On L i
 size:L.size=ops.size
 sizec:Lc.size=ops.size
section
variable {X:XS} {F:Nat→Prop} {E:Env} {ops:Array Oper} {bef:List Nat} {w0 w:World} {m0:Nat→Prop} {ρ0 ρ:List (Nat × Nat)} {s:St} {a:Act} {L Lc:Array Bool} {snap:Nat→List AV} {val:Nat→AV}
theorem ov_at{m:Nat→Prop}{x:Operand}(H: ∀t,x= .tmp t→ ∀v,s.t[t]? = some v→ ∃u,a.tmps[t]? = some u∧Den w m ρ v u):Den w m ρ (s.ov x) (a.eval x):=by
 cases x with
 |tmp t=>
  simp only[St.ov,Act.eval]
  cases h:s.t[t]? with
  |none=>simp[List.getD,h,Den]
  |some v=>
   obtain⟨u,hu,hd⟩:=H t rfl v h
   simp only[List.getD,h,Option.getD_some]
   simpa [Array.getD_eq_getD_getElem?,hu] using hd
 |const v=>exact avc_sound v
 |global g=>rfl
 |func f=>exact⟨[],rfl,rfl⟩
theorem getD_at{t:List AV}{d:Nat}{v:AV}(h:t.getD d .any=v)(hv:v≠ .any):t[d]? = some v:=by
 cases ht:t[d]? with
 |none=>simp[List.getD,ht] at h;exact absurd h.symm hv
 |some x=>simp[List.getD,ht] at h;rw[h]
theorem setB_same{d:Tmp}{b:Bool}(h:s.t.getD d .any= .one (.bool b)):setB s d b=s:=by
 have h1:=getD_at h (by intro h;cases h)
 obtain⟨t,σ⟩:=s
 unfold setB
 dsimp only at h1 ⊢
 congr 1
 refine List.ext_getElem? fun i=> ?_
 by_cases hi:d=i
 ·subst hi
  rw[List.getElem?_set_self (List.getElem?_eq_some_iff.1 h1).1,h1]
 ·rw[List.getElem?_set_ne hi]
theorem getD_set{d:Option Tmp}{v:AV}{x:Nat}(h:d≠some x):(setT s.t d v).getD x .any=s.t.getD x .any:=by
 cases d with
 |none=>rfl
 |some d=>
  have hne:d≠x:=fun e=>h (e ▸ rfl)
  simp only[setT,List.getD_eq_getElem?_getD]
  rw[List.getElem?_set_ne hne]
theorem get_set{t:List AV}{d:Option Tmp}{v:AV}{x:Nat}(h:d≠some x):(setT t d v)[x]? = t[x]? := by
 cases d with
 |none=>rfl
 |some d=>
  have hne:d≠x:=fun e=>h (e ▸ rfl)
  simp only[setT]
  rw[List.getElem?_set_ne hne]
theorem get_self{t:List AV}{d:Option Tmp}{v:AV}{x:Nat}(h:d=some x)(hl:x<t.length):(setT t d v)[x]? = some v:=by
 subst h
 simp only[setT]
 rw[List.getElem?_set_self hl]
theorem setT_length{t:List AV}{d:Option Tmp}{v:AV}:(setT t d v).length=t.length:=by
 cases d<;>simp[setT]
theorem guard_looks{o:Oper}{j d:Nat}{want:Bool}(hg:o.guard=some (j,want))(hd:(ops[j]?).bind (·.dst)=some d):d ∈ o.looksAt ops:=by
 unfold Oper.looksAt
 rw[hg]
 simp[hd]
theorem tmp_looks{o:Oper}{t:Nat}(h:Operand.tmp t ∈ o.op.operands):t ∈ o.looksAt ops:=by
 unfold Oper.looksAt
 refine List.mem_append_left _ (List.mem_filterMap.2 ⟨.tmp t,by simpa using h,rfl⟩)
theorem Guarded.set{o:Oper}{b:Bool}{d:Option Tmp}{v:AV}{σ':List Blk}(h:Guarded ops s o b)(hd: ∀x,d=some x→x ∉ o.looksAt ops):Guarded ops ⟨setT s.t d v,σ'⟩ o b:=by
 unfold Guarded at h ⊢
 split
 ·rename_i hg;rw[hg] at h;exact h
 ·rename_i j want hg
  rw[hg] at h
  dsimp only at h
  obtain⟨x,h1,h2⟩:=h
  exact⟨x,h1,by rw[getD_set fun e=>hd x e (guard_looks hg h1)];exact h2⟩
theorem RelP.looks(hb: ∀j i,(bef.getD j 0).testBit i=true→Before ops i j)(R:RelP X F E ops bef w0 m0 ρ0 ρ snap val L Lc s a w){j:Nat}(hj:j ∈ Region.ready .any ops Lc)(hjL:¬On L j){o:Oper}(ho:ops[j]? = some o){t:Nat}(ht:t ∈ o.looksAt ops){v:AV}(hv:s.t[t]? = some v):
  ∃u,a.tmps[t]? = some u∧Den w (Mut F ρ s.σ) ρ v u:=by
 refine R.get t v hv ?_
 rintro p ⟨hp,q,hq,hd⟩
 obtain⟨q',hq',hf,_⟩:=R.pend p hp
 rw[hq] at hq'
 cases hq'
 have hne:j≠p:=fun e=>hjL (e ▸ hp.1)
 rcases freeOp_spec hb (early_free hf) hq hd j o ho hne (.inl ht) with h|h
 ·exact hp.2 (ready_before hj R.closedc h)
 ·exact hjL (R.closed.before h hp.1)
theorem RelP.saw(R:RelP X F E ops bef w0 m0 ρ0 ρ snap val L Lc s a w){j:Nat}(hj:j ∈ Region.ready .any ops Lc)(hjL:On L j){o:Oper}(ho:ops[j]? = some o){t:Nat}(ht:t ∈ o.looksAt ops){v:AV}(hv:(snap j)[t]? = some v):
  ∃u,a.tmps[t]? = some u∧Den w (Mut F ρ s.σ) ρ v u:=by
 rcases R.look j o t v ⟨hjL,ready_not hj⟩ ho ht hv with⟨q,hq,hbf⟩|h
 ·exact absurd (ready_before hj R.closedc hbf) hq.1.2
 ·exact h
theorem opers_of{t:List AV}{σ:List Blk}{o:Oper}{m:Nat→Prop}(H: ∀x ∈ o.looksAt ops,∀v,t[x]? = some v→ ∃u,a.tmps[x]? = some u∧Den w m ρ v u): ∀x ∈ o.op.operands,Den w m ρ ((St.mk t σ).ov x) (a.eval x):=fun x hx=>ov_at fun y hy v hv=>by
 subst hy
 exact H y (tmp_looks hx) v hv
theorem wanted_of{t:List AV}{σ:List Blk}{o:Oper}{m:Nat→Prop}{b:Bool}(H: ∀x ∈ o.looksAt ops,∀v,t[x]? = some v→ ∃u,a.tmps[x]? = some u∧Den w m ρ v u)(h:Guarded ops ⟨t,σ⟩ o b):Region.wanted o (yielded ops a.tmps)=b:=by
 unfold Guarded at h
 split at h
 ·rename_i hg;simp[Region.wanted,hg,h]
 ·rename_i k want hg
  obtain⟨d,h1,⟨x,h2,rfl⟩|⟨h2,rfl⟩⟩:=h
  ·obtain⟨u,hu,hd⟩:=H d (guard_looks hg h1) _ (getD_at h2 (by intro h;cases h))
   cases hd
   simp[Region.wanted,hg,yielded,h1,hu]
  ·obtain⟨u,hu,vs,hd,_⟩:=H d (guard_looks hg h1) _ (getD_at h2 (by intro h;cases h))
   simp[Region.wanted,hg,yielded,h1,hu,hd]
theorem put_get{d:Option Tmp}{u:Value}{x:Nat}(h:d≠some x):(a.put d u).tmps[x]? = a.tmps[x]? := by
 cases d with
 |none=>rfl
 |some d=>
  simp only[Act.put]
  rw[Array.getElem?_setIfInBounds_ne (fun e=>h (by rw[e]))]
theorem put_self{d:Option Tmp}{u:Value}{x:Nat}(h:d=some x)(hl:x<a.tmps.size):(a.put d u).tmps[x]? = some u:=by
 subst h
 simp only[Act.put]
 rw[Array.getElem?_setIfInBounds_self_of_lt hl]
theorem put_size{d:Option Tmp}{u:Value}:(a.put d u).tmps.size=a.tmps.size:=by cases d<;>simp[Act.put]
theorem RelP.run(hb: ∀j i,(bef.getD j 0).testBit i=true→Before ops i j)(hw:backward ops=true)(R:RelP X F E ops bef w0 m0 ρ0 ρ snap val L Lc s a w){p:Nat}(hp:p ∈ Region.ready .any ops Lc)(hL:On L p){next:Act→World→Prop}{Q:Exit→Act→World→Prop}
  (hnext: ∀a',RelP X F E ops bef w0 m0 ρ0 ρ snap val L (Lc.setIfInBounds p true) s a' w→next a' w) {r:Option Nat}:wpOpIn (wideR r) 0 E.P ops Q p next a w:=by
 have hPd:Pd L Lc p:=⟨hL,ready_not hp⟩
 obtain⟨o,ho,hf,h⟩:=R.pend p hPd
 have hplt:p<Lc.size:=by rw[R.sizec];exact(Array.getElem?_eq_some_iff.1 ho).1
 have irr: ∀{i},¬Before ops i i:=fun h=>Nat.lt_irrefl _ (before_lt hw h)
 have back: ∀{q},Pd L (Lc.setIfInBounds p true) q→Pd L Lc q∧q≠p:=fun{q} hq=>⟨⟨hq.1,fun h=>hq.2 h.set⟩,fun e=>by subst e;exact hq.2 (On.self hplt)⟩
 have forth: ∀{q},Pd L Lc q→q≠p→Pd L (Lc.setIfInBounds p true) q:=fun{q} hq hne=>⟨hq.1,fun h=>hq.2 ((h.of_set).resolve_left hne)⟩
 have nobf: ∀{q},Pd L Lc q→¬Before ops q p:=fun{q} hq hbf=>hq.2 (ready_before hp R.closedc hbf)
 have put: ∀u,Den w (Mut F ρ s.σ) ρ (val p) u→next (a.put o.dst u) w:=fun u hu=>hnext _ {
  inv:=R.inv
  len:=by rw[R.len,put_size]
  get:=fun x v hx hno=>by
   have hl:=(List.getElem?_eq_some_iff.1 hx).1
   by_cases hi:o.dst=some x
   ·rcases R.top x p (by rw[← R.len];exact hl) ⟨hPd,o,ho,hi⟩ with⟨q',⟨h1,h2⟩,h3⟩|h
    ·exact absurd ⟨forth h1 (fun e=>irr (e ▸ h3)),h2⟩ (hno q')
    ·rw[hx] at h
     cases h
     exact⟨u,put_self hi (by rw[← R.len];exact hl),hu⟩
   ·rw[put_get hi]
    refine R.get x v hx fun q ⟨h1,h2⟩=> ?_
    by_cases hqp:q=p
    ·subst hqp
     obtain⟨o',ho',hd'⟩:=h2
     rw[ho] at ho'
     cases ho'
     exact hi hd'
    ·exact hno q ⟨forth h1 hqp,h2⟩
  side:=R.side.put (R.offs p o ho) u
  offs:=R.offs
  pend:=fun q hq=>R.pend q (back hq).1
  slen:=fun q hq=>by rw[put_size];exact R.slen q (back hq).1
  top:=fun x q hl ⟨h1,h2⟩=>by
   rw[put_size] at hl
   rcases R.top x q hl ⟨(back h1).1,h2⟩ with⟨q',⟨h3,h4⟩,h5⟩|h
   ·refine .inl ⟨q',⟨forth h3 fun e=> ?_,h4⟩,h5⟩
    subst e
    exact nobf (back h1).1 h5
   ·exact .inr h
  look:=fun q oq x v hq hoq hx hv=>by
   have hl:x<a.tmps.size:=by rw[← R.slen q (back hq).1];exact(List.getElem?_eq_some_iff.1 hv).1
   by_cases hi:o.dst=some x
   ·rcases freeOp_spec hb (early_free hf) ho hi q oq hoq (back hq).2 (.inl hx) with hbf|hbf
    ·rcases R.link q oq x p (back hq).1 hoq hx hl ⟨hPd,o,ho,hi⟩ hbf with⟨q',⟨h1,h2⟩,h3,h4⟩|h
     ·exact .inl ⟨q',⟨forth h1 fun e=>irr (e ▸ h3),h2⟩,h4⟩
     ·rw[hv] at h
      cases h
      exact .inr ⟨u,put_self hi hl,hu⟩
    ·exact absurd hbf (nobf (back hq).1)
   ·rw[put_get hi]
    rcases R.look q oq x v (back hq).1 hoq hx hv with⟨q',⟨h1,h2⟩,h3⟩|h
    ·refine .inl ⟨q',⟨forth h1 fun e=> ?_,h2⟩,h3⟩
     subst e
     obtain⟨o',ho',hd'⟩:=h2
     rw[ho] at ho'
     cases ho'
     exact hi hd'
    ·exact .inr h
  link:=fun q oq x q2 hq hoq hx hl ⟨h1,h2⟩ hbf=>by
   rw[put_size] at hl
   rcases R.link q oq x q2 (back hq).1 hoq hx hl ⟨(back h1).1,h2⟩ hbf with⟨q',⟨h3,h4⟩,h5,h6⟩|h
   ·refine .inl ⟨q',⟨forth h3 fun e=> ?_,h4⟩,h5,h6⟩
    subst e
    exact nobf (back h1).1 h5
   ·exact .inr h
  same:=fun q oq x hq hoq hx hall=>R.same q oq x (back hq).1 hoq hx hall
  closed:=R.closed
  closedc:=R.closedc.set hp
  sub:=fun i hi=>by
   rcases hi.of_set with rfl|hi
   ·exact hL
   ·exact R.sub i hi
  size:=R.size
  sizec:=by simpa using R.sizec }
 have H: ∀x ∈ o.looksAt ops,∀v,(snap p)[x]? = some v→ ∃u,a.tmps[x]? = some u∧Den w (Mut F ρ s.σ) ρ v u:=fun x hx v hv=>R.saw hp hL ho hx hv
 unfold wpOpIn
 rw[ho]
 dsimp only
 rcases h with⟨hg,hm⟩|⟨hg,hv⟩
 ·rw[if_pos (wanted_of H hg)]
  obtain⟨u,h1,h2⟩:=evM_sound (s:=⟨snap p,s.σ⟩) R.inv.heap hm (f:=a.eval) (opers_of H)
  exact evM_wpIn hm h1 (put u h2)
 ·rw[if_neg (by rw[wanted_of H hg];simp)]
  exact⟨fun _ _=>trivial,put _ (by rw[hv];exact⟨[],rfl,trivial⟩)⟩
theorem evOper_cases{o:Oper}{k:St→Prop}(h:evOper E ops o s k):(Guarded ops s o true∧evDo E o s k)∨(Guarded ops s o false∧k ⟨setT s.t o.dst skipV,s.σ⟩):=by
 unfold evOper at h
 split at h
 ·rename_i hg
  exact .inl ⟨by unfold Guarded;rw[hg],h⟩
 ·rename_i j want hg
  split at h
  case h_2=>exact h.elim
  rename_i d hd
  split at h
  case h_3=>exact h.elim
  case h_2 ht=>exact .inr ⟨by unfold Guarded;rw[hg];exact⟨d,hd,.inr ⟨ht,rfl⟩⟩,h⟩
  rename_i b hb
  have g:Guarded ops s o (b==want):=by
   unfold Guarded
   rw[hg]
   exact⟨d,hd,.inl ⟨b,hb,rfl⟩⟩
  cases want<;>cases b<;>dsimp only [cond] at h<;>rw[setB_same hb] at h
  ·exact .inl ⟨g,h⟩
  ·exact .inr ⟨g,h⟩
  ·exact .inr ⟨g,h⟩
  ·exact .inl ⟨g,h⟩
theorem RelP.ahead(hb: ∀j i,(bef.getD j 0).testBit i=true→Before ops i j)(hw:backward ops=true)(R:RelP X F E ops bef w0 m0 ρ0 ρ snap val L Lc s a w){i:Nat}(hi:i ∈ Region.ready .any ops L){o:Oper}(ho:ops[i]? = some o)(hm:movable o.op=true)(hf:early ops bef i=true){k:St→Prop}(h:evOper E ops o s k):
  ∃s' snap' val',k s'∧RelP X F E ops bef w0 m0 ρ0 ρ snap' val' (L.setIfInBounds i true) Lc s' a w:=by
 have hnL:=ready_not hi
 have hnLc:¬On Lc i:=fun h=>hnL (R.sub i h)
 have hlt:i<L.size:=by rw[R.size];exact(Array.getElem?_eq_some_iff.1 ho).1
 have hself:Pd (L.setIfInBounds i true) Lc i:=⟨On.self hlt,hnLc⟩
 have irr: ∀{i},¬Before ops i i:=fun h=>Nat.lt_irrefl _ (before_lt hw h)
 have back: ∀{q},Pd (L.setIfInBounds i true) Lc q→q=i∨Pd L Lc q:=fun{q} hq=>hq.1.of_set.imp id fun h=>⟨h,hq.2⟩
 have forth: ∀{q},Pd L Lc q→Pd (L.setIfInBounds i true) Lc q:=fun{q} hq=>⟨hq.1.set,hq.2⟩
 have ne: ∀{q},Pd L Lc q→q≠i:=fun{q} hq e=>hnL (e ▸ hq.1)
 have nobf: ∀{q},Pd L Lc q→¬Before ops i q:=fun{q} hq hbf=>hnL (R.closed.before hbf hq.1)
 have go: ∀v,((Guarded ops s o true∧evM E.P s o.op=some (true,v))∨(Guarded ops s o false∧v=skipV))→
   RelP X F E ops bef w0 m0 ρ0 ρ (fun p=>if p=i then s.t else snap p) (fun p=>if p=i then v else val p) (L.setIfInBounds i true) Lc ⟨setT s.t o.dst v,s.σ⟩ a w:=fun v hv=>{
  inv:=R.inv
  len:=by dsimp only;rw[setT_length];exact R.len
  get:=fun x y hx hno=>by
   have hne:o.dst≠some x:=fun e=>hno i ⟨hself,o,ho,e⟩
   rw[get_set hne] at hx
   exact R.get x y hx fun p ⟨h1,h2⟩=>hno p ⟨forth h1,h2⟩
  side:=R.side
  offs:=R.offs
  pend:=fun p hp=>by
   rcases back hp with rfl|hp
   ·simp only[if_true]
    exact⟨o,ho,hf,hv⟩
   ·simp only[if_neg (ne hp)]
    exact R.pend p hp
  slen:=fun p hp=>by
   rcases back hp with rfl|hp
   ·simp only[if_true];exact R.len
   ·simp only[if_neg (ne hp)];exact R.slen p hp
  top:=fun x q hl ⟨h1,oq,hoq,hdq⟩=>by
   rcases back h1 with rfl|hq
   ·rw[ho] at hoq
    cases hoq
    refine .inr ?_
    simp only[if_true]
    exact get_self hdq (by rw[R.len];exact hl)
   ·simp only[if_neg (ne hq)]
    by_cases hi':o.dst=some x
    ·rcases freeOp_spec hb (early_free hf) ho hi' q oq hoq (ne hq) (.inr hdq) with hbf|hbf
     ·exact absurd hbf (nobf hq)
     ·exact .inl ⟨i,⟨hself,o,ho,hi'⟩,hbf⟩
    ·rw[get_set hi']
     rcases R.top x q hl ⟨hq,oq,hoq,hdq⟩ with⟨q',⟨h3,h4⟩,h5⟩|h
     ·exact .inl ⟨q',⟨forth h3,h4⟩,h5⟩
     ·exact .inr h
  look:=fun p op x y hp hop hx hy=>by
   rcases back hp with rfl|hp
   ·simp only[if_true] at hy
    rw[ho] at hop
    cases hop
    by_cases hex: ∃q,Wr ops L Lc x q
    ·obtain⟨q,hq,oq,hoq,hdq⟩:=hex
     obtain⟨oq',hoq',hfq,_⟩:=R.pend q hq
     rw[hoq] at hoq'
     cases hoq'
     rcases freeOp_spec hb (early_free hfq) hoq hdq _ o ho (fun e=>ne hq e.symm) (.inl hx) with hbf|hbf
     ·exact .inl ⟨q,⟨forth hq,oq,hoq,hdq⟩,hbf⟩
     ·exact absurd hbf (nobf hq)
    ·exact .inr (R.get x y hy fun q hq=>hex ⟨q,hq⟩)
   ·simp only[if_neg (ne hp)] at hy
    rcases R.look p op x y hp hop hx hy with⟨q,⟨h1,h2⟩,h3⟩|h
    ·exact .inl ⟨q,⟨forth h1,h2⟩,h3⟩
    ·exact .inr h
  link:=fun p op x q hp hop hx hl ⟨h1,oq,hoq,hdq⟩ hbf=>by
   rcases back hp with rfl|hp
   ·rcases back h1 with rfl|hq
    ·exact absurd hbf irr
    ·simp only[if_true,if_neg (ne hq)]
     rw[ho] at hop
     cases hop
     rcases R.top x q hl ⟨hq,oq,hoq,hdq⟩ with⟨q',⟨h3,o',ho',hd'⟩,h5⟩|h
     ·obtain⟨o2,ho2,hf2,_⟩:=R.pend q' h3
      rw[ho'] at ho2
      cases ho2
      rcases freeOp_spec hb (early_free hf2) ho' hd' _ o ho (fun e=>ne h3 e.symm) (.inl hx) with hbf'|hbf'
      ·exact .inl ⟨q',⟨forth h3,o',ho',hd'⟩,h5,hbf'⟩
      ·exact absurd hbf' (nobf h3)
     ·exact .inr h
   ·rcases back h1 with e|hq
    ·subst e
     exact absurd hbf (nobf (by assumption))
    ·simp only[if_neg (ne hp),if_neg (ne hq)]
     rcases R.link p op x q hp hop hx hl ⟨hq,oq,hoq,hdq⟩ hbf with⟨q',⟨h3,h4⟩,h5,h6⟩|h
     ·exact .inl ⟨q',⟨forth h3,h4⟩,h5,h6⟩
     ·exact .inr h
  same:=fun p op x hp hop hx hall=>by
   rcases back hp with rfl|hp
   ·simp only[if_true]
    have hne:o.dst≠some x:=fun e=>irr (hall _ o ho e)
    rw[get_set hne]
   ·simp only[if_neg (ne hp)]
    have hne:o.dst≠some x:=fun e=>nobf hp (hall _ o ho e)
    rw[get_set hne]
    exact R.same p op x hp hop hx hall
  closed:=R.closed.set hi
  closedc:=R.closedc
  sub:=fun j hj=>(R.sub j hj).set
  size:=by simpa using R.size
  sizec:=R.sizec }
 rcases evOper_cases h with⟨hg,h⟩|⟨hg,h⟩
 ·obtain⟨v,hv,hk⟩:=evDo_mov hm h
  exact⟨_,_,_,hk,go v (.inl ⟨hg,hv⟩)⟩
 ·exact⟨_,_,_,h,go skipV (.inr ⟨hg,rfl⟩)⟩
theorem evM_pure{P:Program}{t:List AV}{σ σ':List Blk}{o:Op}(h:pureOp o=true):evM P ⟨t,σ'⟩ o=evM P ⟨t,σ⟩ o:=by
 cases o with
 |call c=>
  obtain⟨callee,args,ts⟩:=c
  cases callee with
  |builtin b=>cases b<;>first|rfl|(simp[pureOp] at h;done)
  |_=>simp[pureOp] at h
 |_=>first|rfl|(simp[pureOp] at h;done)
theorem storeId_pos{s:St}{o:Op}{id:Nat}(h:storeId s o=some id): ∃ty a x wd i c,o= .store ty a x∧s.ov a= .one (.ptr id wd i c):=by
 unfold storeId at h
 split at h
 case h_2=>cases h
 rename_i ty a x
 split at h
 case h_2=>cases h
 rename_i i2 wd i c hp
 cases h
 exact⟨ty,a,x,wd,i,c,rfl,hp⟩
theorem evN_storeId{o:Oper}{id:Nat}(h:storeId s o.op=some id){k:AV→List Blk→Prop}(hn:evN E o s k):evN E o s (fun v σ'=>k v σ'∧ ∃b,σ'=s.σ.set id b):=by
 obtain⟨ty,a,x,wd,i,c,ho,ha⟩:=storeId_pos h
 unfold evN at hn ⊢
 rw[ho] at hn ⊢
 dsimp only at hn ⊢
 rw[ha] at hn ⊢
 split at hn
 case h_2=>exact hn.elim
 rename_i p l sz hp hl hs
 cases hp
 split at hn
 case isFalse=>exact hn.elim
 rename_i hlen
 rw[if_pos hlen]
 split at hn
 case h_2=>exact hn.elim
 rename_i c' σ' hst
 obtain⟨rfl,hk⟩:=cond_pos hn
 refine⟨hk,?_⟩
 unfold storeSVs at hst
 dsimp only at hst
 split at hst
 case h_2=>cases hst
 rename_i b hb
 simp only[Option.map_eq_some_iff] at hst
 obtain⟨⟨h1,b'⟩,-,h2⟩:=hst
 cases h2
 exact⟨b',rfl⟩
theorem loadSVs_set{σ:List Blk}{id n:Nat}{b:Blk}{p:SV}(h:offPtr id (.one p)=true):loadSVs (σ.set id b) p n=loadSVs σ p n:=by
 unfold offPtr at h
 cases p with
 |ptr id' wd i c=>
  have:id≠id':=fun e=>by simp[e] at h
  unfold loadSVs
  dsimp only
  rw[List.getElem?_set_ne this]
 |dptr r i c=>rfl
 |_=>simp at h
theorem evIndexAddr_ptr{P:Program}{σ σ':List Blk}{ty:TypeId}{x ix:AV}(h:isPtr x=true):evIndexAddr P σ ty x ix=evIndexAddr P σ' ty x ix:=by
 unfold isPtr at h
 split at h
 ·unfold evIndexAddr
  split<;>first|rfl|(rename_i hq;cases hq;rfl)
 ·cases h
theorem evM_set{P:Program}{bef:List Nat}(hb: ∀j i,(bef.getD j 0).testBit i=true→Before ops i j){s:St}{p id:Nat}{o:Op}(h:loadOff ops bef s p id o=true){t:List AV}(hsame: ∀x,Operand.tmp x ∈ o.operands→(∀q oq,ops[q]? = some oq→oq.dst=some x→Before ops q p)→t[x]? = s.t[x]?){σ:List Blk}{b:Blk}:
  evM P ⟨t,σ.set id b⟩ o=evM P ⟨t,σ⟩ o:=by
 unfold loadOff at h
 split at h
 case h_3=>cases h
 case h_2 ty x ix=>
  simp only[Bool.and_eq_true,List.all_eq_true,List.mem_range,Bool.or_eq_true] at h
  have hx:t[x]? = s.t[x]? := hsame x (by simp[Op.operands]) fun q oq hq hd=>by
   rcases h.1 q (Array.getElem?_eq_some_iff.1 hq).1 with h1|h1
   ·rw[hq] at h1;simp[hd] at h1
   ·exact hb _ _ h1
  have hv:t.getD x .any=s.t.getD x .any:=by simp only[List.getD,hx]
  have hp:=h.2
  rw[← hv] at hp
  exact evIndexAddr_ptr (x:=t.getD x .any) hp
 rename_i ty x
 simp only[Bool.and_eq_true,List.all_eq_true,List.mem_range,Bool.or_eq_true] at h
 have hx:t[x]? = s.t[x]? := hsame x (by simp[Op.operands]) fun q oq hq hd=>by
  rcases h.1 q (Array.getElem?_eq_some_iff.1 hq).1 with h1|h1
  ·rw[hq] at h1;simp[hd] at h1
  ·exact hb _ _ h1
 have hv:t.getD x .any=s.t.getD x .any:=by simp only[List.getD,hx]
 have hp:=h.2
 rw[← hv] at hp
 unfold evM
 simp only[St.ov]
 cases hy:t.getD x .any with
 |one p=>
  rw[hy] at hp
  have e: ∀n,loadSVs (σ.set id b) p n=loadSVs σ p n:=fun n=>loadSVs_set hp
  cases sizeT P ty with
  |none=>rfl
  |some n=>
   dsimp only
   rw[e n,e 1]
 |_=>first|(rw[hy] at hp;done)|(rw[hy] at hp;cases hp)
theorem merge_off{σ σ':List Blk}{L:List Nat}{id:Nat}(h:id ∉ L)(hl:id<σ.length):(merge σ L σ')[id]? = σ[id]? := by
 unfold merge
 rw[List.getElem?_append_left (by rw[putAt_length];exact hl),putAt_notin _ _ _ _ h]
theorem evN_callIds{o:Oper}{Lx:List Nat}(h:callIds E s o.op=some Lx){k:AV→List Blk→Prop}(hn:evN E o s k):evN E o s (fun v σ'=>k v σ'∧ ∀id,id<s.σ.length→id ∉ Lx→σ'[id]? = s.σ[id]?):=by
 unfold callIds at h
 split at h
 case h_2=>cases h
 rename_i f args ts ho
 split at h
 case h_2=>cases h
 rename_i g cap hf
 split at h
 case h_2=>cases h
 rename_i c args' hv
 split at h
 case isFalse=>cases h
 rename_i hem
 cases h
 unfold evN at hn ⊢
 rw[ho] at hn ⊢
 dsimp only at hn ⊢
 rw[hf] at hn ⊢
 dsimp only at hn ⊢
 unfold evCall at hn ⊢
 rw[hv] at hn ⊢
 cases hs:E.specs g with
 |none=>rw[hs] at hn;exact hn.elim
 |some S=>
  rw[hs] at hn
  dsimp only at hn ⊢
  split at hn
  case isFalse=>exact hn.elim
  rename_i hall
  rw[if_pos hall]
  obtain⟨rfl,hn⟩:=cond_pos hn
  refine(congrArg (S _ _) ?_).mp hn
  funext a σ'
  rw[hem,Bool.true_or,if_pos rfl,if_pos rfl]
  exact propext ⟨fun hk=>⟨hk,fun id hl hi=>merge_off hi hl⟩,And.left⟩
theorem evM_offs{P:Program}{bef:List Nat}(hb: ∀j i,(bef.getD j 0).testBit i=true→Before ops i j){s:St}{p:Nat}{Lx:List Nat}{o:Op}(h:loadOffs ops bef s p Lx o=true){t:List AV}(hsame: ∀x,Operand.tmp x ∈ o.operands→(∀q oq,ops[q]? = some oq→oq.dst=some x→Before ops q p)→t[x]? = s.t[x]?){σ':List Blk}(hσ: ∀id,id<s.σ.length→id ∉ Lx→σ'[id]? = s.σ[id]?):
  evM P ⟨t,σ'⟩ o=evM P ⟨t,s.σ⟩ o:=by
 unfold loadOffs at h
 split at h
 case h_2=>cases h
 rename_i ty x
 simp only[Bool.and_eq_true,List.all_eq_true,List.mem_range,Bool.or_eq_true] at h
 have hx:t[x]? = s.t[x]? := hsame x (by simp[Op.operands]) fun q oq hq hd=>by
  rcases h.1 q (Array.getElem?_eq_some_iff.1 hq).1 with h1|h1
  ·rw[hq] at h1;simp[hd] at h1
  ·exact hb _ _ h1
 have hv:t.getD x .any=s.t.getD x .any:=by simp only[List.getD,hx]
 have hp:=h.2
 rw[← hv] at hp
 unfold evM
 simp only[St.ov]
 cases hy:t.getD x .any with
 |one p=>
  rw[hy] at hp
  have e: ∀n,loadSVs σ' p n=loadSVs s.σ p n:=fun n=>by
   cases p with
   |ptr id' wd i c=>
    have hp':(!Lx.contains id'&&decide (id'<s.σ.length))=true:=hp
    simp only[Bool.and_eq_true,Bool.not_eq_true',decide_eq_true_eq] at hp'
    unfold loadSVs
    dsimp only
    rw[hσ id' hp'.2 (fun hm=>by rw[List.contains_iff_mem.2 hm] at hp';cases hp'.1)]
   |dptr r i c=>rfl
   |_=>cases hp
  cases sizeT P ty with
  |none=>rfl
  |some n=>
   dsimp only
   rw[e n,e 1]
 |_=>first|(rw[hy] at hp;done)|(rw[hy] at hp;cases hp)
theorem RelP.calm(hS: ∀f S,E.specs f=some S→SpecOK E.P f S)(hb: ∀j i,(bef.getD j 0).testBit i=true→Before ops i j)(R:RelP X F E ops bef w0 m0 ρ0 ρ snap val L Lc s a w){j:Nat}(hj:j ∈ Region.ready .any ops Lc)(hjL:j ∈ Region.ready .any ops L){o:Oper}(ho:ops[j]? = some o)(hc:Ev.calm E s o=true∨ ∀p q,Pd L Lc p→ops[p]? = some q→pureOp q.op=true∨(∃id,storeId s o.op=some id∧loadOff ops bef s p id q.op=true)∨ ∃Lx,storeId s o.op=none∧callIds E s o.op=some Lx∧loadOffs ops bef s p Lx q.op=true)(hf:freeOp ops bef j=true){k:St→Prop}(h:evOper E ops o s k)
  {next:Act→World→Prop} {Q:Exit→Act→World→Prop} (hnext: ∀ρ' s' a' w',k s'→RelP X F E ops bef w0 m0 ρ0 ρ' snap val (L.setIfInBounds j true) (Lc.setIfInBounds j true) s' a' w'→next a' w') {r:Option Nat}:wpOpIn (wideR r) 0 E.P ops Q j next a w:=by
 have hnL:=ready_not hjL
 have hlt:j<Lc.size:=by rw[R.sizec];exact(Array.getElem?_eq_some_iff.1 ho).1
 have pd: ∀{p},Pd (L.setIfInBounds j true) (Lc.setIfInBounds j true) p→Pd L Lc p:=fun{p} hp=>by
  rcases hp.1.of_set with rfl|h
  ·exact absurd (On.self hlt) hp.2
  ·exact⟨h,fun h'=>hp.2 h'.set⟩
 have dp: ∀{p},Pd L Lc p→Pd (L.setIfInBounds j true) (Lc.setIfInBounds j true) p:=fun{p} hp=>⟨hp.1.set,fun h=>by
  rcases h.of_set with rfl|h
  ·exact hnL hp.1
  ·exact hp.2 h⟩
 have wr: ∀{x q},Wr ops (L.setIfInBounds j true) (Lc.setIfInBounds j true) x q→Wr ops L Lc x q:=fun⟨h1,h2⟩=>⟨pd h1,h2⟩
 have rw': ∀{x q},Wr ops L Lc x q→Wr ops (L.setIfInBounds j true) (Lc.setIfInBounds j true) x q:=fun⟨h1,h2⟩=>⟨dp h1,h2⟩
 have nn: ∀{x p q},o.dst=some x→Pd L Lc p→ops[p]? = some q→¬(x ∈ q.looksAt ops∨q.dst=some x):=fun{x p q} hd hp hq hn=>by
  rcases freeOp_spec hb hf ho hd p q hq (fun e=>hnL (e ▸ hp.1)) hn with hbf|hbf
  ·exact hnL (R.closed.before hbf hp.1)
  ·exact hp.2 (ready_before hj R.closedc hbf)
 have put: ∀ρ' v σ' u w',Inv F w0 m0 ρ0 ρ' σ' w'→((∃e,σ'=s.σ++e)∨ ∀p q,Pd L Lc p→ops[p]? = some q→evM E.P ⟨snap p,σ'⟩ q.op=evM E.P ⟨snap p,s.σ⟩ q.op)→(∀(v:AV) (u:Value),Den w (Mut F ρ s.σ) ρ v u→Den w' (Mut F ρ' σ') ρ' v u)→Side X F a w'→Den w' (Mut F ρ' σ') ρ' v u→
   RelP X F E ops bef w0 m0 ρ0 ρ' snap val (L.setIfInBounds j true) (Lc.setIfInBounds j true) ⟨setT s.t o.dst v,σ'⟩ (a.put o.dst u) w':=fun ρ' v σ' u w' I he K hside hu=>{
  inv:=I
  len:=by dsimp only;rw[setT_length,R.len,put_size]
  get:=fun x y hx hno=>by
   dsimp only at hx
   by_cases hi:o.dst=some x
   ·have hl:x<s.t.length:=by
     have:=(List.getElem?_eq_some_iff.1 hx).1
     rw[setT_length] at this
     exact this
    rw[get_self hi hl] at hx
    cases hx
    exact⟨u,put_self hi (by rw[← R.len];exact hl),hu⟩
   ·rw[get_set hi] at hx
    obtain⟨u',h1,h2⟩:=R.get x y hx fun p hp=>hno p (rw' hp)
    exact⟨u',by rw[put_get hi];exact h1,K _ _ h2⟩
  side:=hside.put (R.offs j o ho) u
  offs:=R.offs
  pend:=fun p hp=>by
   obtain⟨q,hq,hfq,h⟩:=R.pend p (pd hp)
   have hg: ∀{b},Guarded ops ⟨snap p,s.σ⟩ q b→Guarded ops ⟨snap p,σ'⟩ q b:=fun h=>h
   exact⟨q,hq,hfq,h.imp (fun⟨h1,h2⟩=>⟨hg h1,he.elim (fun he=>evM_mono h2 he fun x _=>by cases x<;>rfl) fun hp'=>(hp' p q (pd hp) hq).trans h2⟩) fun⟨h1,h2⟩=>⟨hg h1,h2⟩⟩
  slen:=fun p hp=>by rw[put_size];exact R.slen p (pd hp)
  top:=fun x q hl hq=>by
   rw[put_size] at hl
   obtain⟨h1,oq,hoq,hdq⟩:=wr hq
   have hne:o.dst≠some x:=fun e=>nn e h1 hoq (.inr hdq)
   dsimp only
   rw[get_set hne]
   rcases R.top x q hl (wr hq) with⟨q',h3,h5⟩|h
   ·exact .inl ⟨q',rw' h3,h5⟩
   ·exact .inr h
  look:=fun p op x y hp hop hx hy=>by
   have hne:o.dst≠some x:=fun e=>nn e (pd hp) hop (.inl hx)
   rw[put_get hne]
   rcases R.look p op x y (pd hp) hop hx hy with⟨q,h1,h3⟩|⟨u',h1,h2⟩
   ·exact .inl ⟨q,rw' h1,h3⟩
   ·exact .inr ⟨u',h1,K _ _ h2⟩
  link:=fun p op x q hp hop hx hl hq hbf=>by
   rw[put_size] at hl
   rcases R.link p op x q (pd hp) hop hx hl (wr hq) hbf with⟨q',h3,h5⟩|h
   ·exact .inl ⟨q',rw' h3,h5⟩
   ·exact .inr h
  same:=fun p op x hp hop hx hall=>by
   have hne:o.dst≠some x:=fun e=>nn e (pd hp) hop (.inl hx)
   dsimp only
   rw[get_set hne]
   exact R.same p op x (pd hp) hop hx hall
  closed:=R.closed.set hjL
  closedc:=R.closedc.set hj
  sub:=fun i hi=>by
   rcases hi.of_set with rfl|hi
   ·exact On.self (by rw[R.size,← R.sizec];exact hlt)
   ·exact(R.sub i hi).set
  size:=by simpa using R.size
  sizec:=by simpa using R.sizec }
 have H: ∀x ∈ o.looksAt ops,∀v,s.t[x]? = some v→ ∃u,a.tmps[x]? = some u∧Den w (Mut F ρ s.σ) ρ v u:=fun x hx v hv=>R.looks hb hj hnL ho hx hv
 have Hop: ∀x ∈ o.op.operands,Den w (Mut F ρ s.σ) ρ (s.ov x) (a.eval x):=opers_of (t:=s.t) (σ:=s.σ) H
 unfold wpOpIn
 rw[ho]
 dsimp only
 rcases evOper_cases h with⟨hg,h⟩|⟨hg,h⟩
 ·rw[if_pos (wanted_of (t:=s.t) (σ:=s.σ) H hg)]
  by_cases hm:movable o.op=true
  ·obtain⟨v,hv,hk⟩:=evDo_mov hm h
   obtain⟨u,h1,h2⟩:=evM_sound R.inv.heap hv (f:=a.eval) Hop
   exact evM_wpIn hv h1 (hnext _ _ _ _ hk (put ρ v s.σ u w R.inv (.inl ⟨[],by simp⟩) (fun _ _ h=>h) R.side h2))
  ·unfold evDo at h
   rw[if_neg hm] at h
   split at h
   ·rename_i c v hv
    obtain⟨rfl,hk⟩:=cond_pos h
    obtain⟨u,h1,h2⟩:=evM_sound R.inv.heap hv (f:=a.eval) Hop
    exact evM_wpIn hv h1 (hnext _ _ _ _ hk (put ρ v s.σ u w R.inv (.inl ⟨[],by simp⟩) (fun _ _ h=>h) R.side h2))
   ·cases hst:storeId s o.op with
    |none=>
     cases hci:callIds E s o.op with
     |none=>
      refine evN_sound hS R.inv.rebase h Hop ?_
      rintro u w' ⟨v,σ',ρ',hk,I',⟨r,rfl⟩,K,hden,hcalm⟩
      refine hnext _ _ _ _ hk (put _ v σ' u w' (R.inv.trans I') ?_ (fun _ _ h=>h.keep K fun _ _ h=>getElem?_append_some h) (R.side.keep K.size (R.inv.calmF I')) hden)
      rcases hc with hc|hc
      ·exact .inl (hcalm hc).1
      ·refine .inr fun p q hp hq=> ?_
       rcases hc p q hp hq with h1|⟨id,h1,-⟩|⟨Lx,-,h1,-⟩
       ·exact evM_pure h1
       ·rw[hst] at h1;cases h1
       ·rw[hci] at h1;cases h1
     |some Lx=>
      refine evN_sound hS R.inv.rebase (evN_callIds hci h) Hop ?_
      rintro u w' ⟨v,σ',ρ',⟨hk,hσ⟩,I',⟨r,rfl⟩,K,hden,hcalm⟩
      refine hnext _ _ _ _ hk (put _ v σ' u w' (R.inv.trans I') ?_ (fun _ _ h=>h.keep K fun _ _ h=>getElem?_append_some h) (R.side.keep K.size (R.inv.calmF I')) hden)
      rcases hc with hc|hc
      ·exact .inl (hcalm hc).1
      ·refine .inr fun p q hp hq=> ?_
       rcases hc p q hp hq with h1|⟨id,h1,-⟩|⟨Ly,-,h1,h2⟩
       ·exact evM_pure h1
       ·rw[hst] at h1;cases h1
       ·rw[hci] at h1
        cases h1
        exact evM_offs hb h2 (fun x hx hall=>R.same p q x hp hq (tmp_looks hx) hall) hσ
    |some id=>
     refine evN_sound hS R.inv.rebase (evN_storeId hst h) Hop ?_
     rintro u w' ⟨v,σ',ρ',⟨hk,b,hσ⟩,I',⟨r,rfl⟩,K,hden,hcalm⟩
     refine hnext _ _ _ _ hk (put _ v σ' u w' (R.inv.trans I') ?_ (fun _ _ h=>h.keep K fun _ _ h=>getElem?_append_some h) (R.side.keep K.size (R.inv.calmF I')) hden)
     rcases hc with hc|hc
     ·exact .inl (hcalm hc).1
     ·refine .inr fun p q hp hq=> ?_
      rcases hc p q hp hq with h1|⟨id',h1,h2⟩|⟨Lx,h1,-⟩
      ·exact evM_pure h1
      rotate_left
      ·rw[hst] at h1;cases h1
      ·rw[hst] at h1
       cases h1
       rw[hσ]
       exact evM_set hb h2 fun x hx hall=>R.same p q x hp hq (tmp_looks hx) hall
 ·rw[if_neg (by rw[wanted_of (t:=s.t) (σ:=s.σ) H hg];simp)]
  exact⟨fun _ _=>trivial,hnext _ _ _ _ h (put ρ skipV s.σ _ w R.inv (.inl ⟨[],by simp⟩) (fun _ _ h=>h) R.side ⟨[],rfl,trivial⟩)⟩
theorem RelP.full(R:RelP X F E ops bef w0 m0 ρ0 ρ snap val L Lc s a w)(h: ∀p,¬Pd L Lc p):Rel X F w0 m0 ρ0 s a w:= ⟨ρ,R.inv,⟨R.len,fun i v hv=>R.get i v hv fun p hp=>h p hp.1⟩,R.side⟩
theorem conj_mem{p:Nat→Prop}: ∀{l:List Nat},conj l p→ ∀j ∈ l,p j
 |[],_,j,h=>by simp at h
 |[a],hp,j,h=>by simp at h;subst h;exact hp
 |a::b::l,hp,j,h=>by
  rcases List.mem_cons.1 h with rfl|h
  ·exact hp.1
  ·exact conj_mem (l:=b::l) hp.2 j h
theorem RelP.rest(hw:backward ops=true)(R:RelP X F E ops bef w0 m0 ρ0 ρ snap val L Lc s a w)(h:Region.ready .any ops Lc=[]): ∀p,¬Pd L Lc p:=by
 intro p
 induction p using Nat.strongRecOn with
 |ind p ih=>
  intro hp
  obtain⟨o,ho,_⟩:=R.pend p hp
  have hlt:=(Array.getElem?_eq_some_iff.1 ho).1
  have:p ∈ Region.ready .any ops Lc:=by
   refine mem_ready.2 ⟨?_,o,ho,fun e he hb=> ?_⟩
   ·have hl:p<Lc.size:=by rw[R.sizec];exact hlt
    have:=hp.2
    unfold On at this
    simp[hl] at this ⊢
    exact this
   ·have hE:Edge ops e.on p:=⟨o,ho,e,he,hb,rfl⟩
    have hlt':e.on<p:=by
     have:=List.all_eq_true.1 hw p (by simpa using hlt)
     rw[ho] at this
     simpa using List.all_eq_true.1 this e.on (mem_preds.2 ⟨e,he,hb,rfl⟩)
    have hLe:=R.closed _ _ hE hp.1
    cases hLc:Lc.getD e.on false with
    |true=>rfl
    |false=>exact absurd ⟨hLe,by unfold On;rw[hLc];simp⟩ (ih e.on hlt')
  rw[h] at this
  cases this
theorem ready_congr(h: ∀i,On L i↔On Lc i)(h1:L.size=ops.size)(h2:Lc.size=ops.size):Region.ready .any ops L=Region.ready .any ops Lc:=by
 have:L=Lc:=by
  refine Array.ext (by rw[h1,h2]) fun i hi hi'=> ?_
  have:=h i
  unfold On at this
  simp[hi,hi'] at this
  cases hL:L[i]<;>cases hL':Lc[i]<;>simp_all
 rw[this]
theorem countP_lt{α:Type}{p q:α→Bool}: ∀{l:List α},(∀x ∈ l,p x=true→q x=true)→(∃x ∈ l,q x=true∧p x=false)→l.countP p<l.countP q
 |[],_,⟨x,hx,_⟩=>by simp at hx
 |y::l,h,⟨x,hx,hq,hp⟩=>by
  have hle:l.countP p≤l.countP q:=List.countP_mono_left fun z hz=>h z (by simp[hz])
  rw[List.countP_cons,List.countP_cons]
  rcases List.mem_cons.1 hx with rfl|hx
  ·simp[hq,hp];omega
  ·have:=countP_lt (p:=p) (q:=q) (l:=l) (fun z hz=>h z (by simp[hz])) ⟨x,hx,hq,hp⟩
   cases hpy:p y with
   |false=>simp;omega
   |true=>simp[h y (by simp) hpy];omega
theorem evDraw_sound (hS : ∀ f S, E.specs f = some S → SpecOK E.P f S) (hb : ∀ j i, (bef.getD j 0).testBit i = true → Before ops i j) (hw : backward ops = true) {Q : Exit → Act → World → Prop} {k : St → Prop} {r : Option Nat} (hQ : ∀ s' a' w', k s' → Rel X F w0 m0 ρ0 s' a' w' → Q .normal a' w') :
    ∀ (fuel : Nat) (Lc : Array Bool) (a : Act) (w : World) (ρ : List (Nat × Nat)) (n : Nat) (snap : Nat → List AV) (val : Nat → AV) (L : Array Bool) (s : St), (List.range ops.size).countP (fun i => !Lc.getD i true) ≤ fuel →
      RelP X F E ops bef w0 m0 ρ0 ρ snap val L Lc s a w → evDraw E ops bef n L s k → wpAnyIn (wideR r) 0 E.P .any ops Q fuel Lc a w := by
  have fin : ∀ {Lc : Array Bool} {a : Act} {w : World} {ρ : List (Nat × Nat)} {n : Nat} {snap : Nat → List AV} {val : Nat → AV} {L : Array Bool} {s : St}, RelP X F E ops bef w0 m0 ρ0 ρ snap val L Lc s a w → evDraw E ops bef n L s k → Region.ready .any ops Lc = [] → Q .normal a w := by
    intro Lc a w ρ n snap val L s R h hr
    have hno := R.rest hw hr
    have hrL : Region.ready .any ops L = [] := by
      rw [← hr]
      exact ready_congr (fun i => ⟨fun h => Classical.byContradiction fun h' => hno i ⟨h, h'⟩, R.sub i⟩) R.size R.sizec
    refine hQ s a w ?_ (R.full hno)
    cases n with
    | zero => unfold evDraw at h; rw [hrL] at h; exact h
    | succ n => unfold evDraw at h; rw [hrL] at h; exact h
  intro fuel
  induction fuel with
  | zero =>
    intro Lc a w ρ n snap val L s hc R h
    have hr : Region.ready .any ops Lc = [] := by
      refine List.eq_nil_iff_forall_not_mem.2 fun j hj => ?_
      have h0 := (mem_ready.1 hj).1
      obtain ⟨_, o, ho, _⟩ := mem_ready.1 hj
      have hlt := (Array.getElem?_eq_some_iff.1 ho).1
      have : 0 < (List.range ops.size).countP (fun i => !Lc.getD i true) := List.countP_pos_iff.2 ⟨j, by simpa using hlt, by rw [h0]; rfl⟩
      omega
    exact ⟨hr, fin R h hr⟩
  | succ fuel ih =>
    intro Lc a w ρ n snap val L s hc R h
    refine ⟨fin R h, fun j hj => ?_⟩
    obtain ⟨hj0, o, ho, _⟩ := mem_ready.1 hj
    have hjlt := (Array.getElem?_eq_some_iff.1 ho).1
    have hc' : (List.range ops.size).countP (fun i => !(Lc.setIfInBounds j true).getD i true) ≤ fuel := by
      have : (List.range ops.size).countP (fun i => !(Lc.setIfInBounds j true).getD i true) < (List.range ops.size).countP (fun i => !Lc.getD i true) := by
        refine countP_lt (fun i _ hi => ?_) ⟨j, by simpa using hjlt, by rw [hj0]; rfl, ?_⟩
        · by_cases hij : j = i
          · subst hij; rw [hj0]; rfl
          · rw [getD_set_ne _ hij] at hi; exact hi
        · have : j < Lc.size := by rw [R.sizec]; exact hjlt
          simp [this]
      omega
    induction n generalizing L s snap val with
    | zero =>
      by_cases hL : On L j
      · exact R.run hb hw hj hL fun a' R' => ih _ _ _ _ _ _ _ _ _ hc' R' h
      · exfalso
        have hjL : j ∈ Region.ready .any ops L := mem_ready.2 ⟨by have hl : j < L.size := by rw [R.size]; exact hjlt
                                                                  unfold On at hL; simp [hl] at hL ⊢; exact hL, o, ho, fun e he hbd => R.sub _ (ready_edge hj ⟨o, ho, e, he, hbd, rfl⟩)⟩
        unfold evDraw at h
        split at h
        · rename_i hr; rw [hr] at hjL; cases hjL
        · exact h
    | succ n ihn =>
      by_cases hL : On L j
      · exact R.run hb hw hj hL fun a' R' => ih _ _ _ _ _ _ _ _ _ hc' R' h
      · have hjL : j ∈ Region.ready .any ops L := mem_ready.2 ⟨by have hl : j < L.size := by rw [R.size]; exact hjlt
                                                                  unfold On at hL; simp [hl] at hL ⊢; exact hL, o, ho, fun e he hbd => R.sub _ (ready_edge hj ⟨o, ho, e, he, hbd, rfl⟩)⟩
        unfold evDraw at h
        split at h
        · rename_i i hi
          split at h
          case h_2 => exact h.elim
          rename_i oi hoi
          have hmem := List.mem_of_find?_eq_some hi
          have hsat := List.find?_some hi
          have hmv : movable oi.op = true := by
            unfold early at hsat
            rw [hoi] at hsat
            simp only [Bool.and_eq_true] at hsat
            exact hsat.1
          obtain ⟨s', snap', val', hk, R'⟩ := R.ahead hb hw hmem hoi hmv hsat h
          exact ihn _ _ _ _ R' hk
        · split at h
          · rename_i hr; rw [hr] at hjL; cases hjL
          · have hcj := conj_mem h j hjL
            rw [ho] at hcj
            dsimp only at hcj
            split at hcj
            case isFalse => exact hcj.elim
            rename_i hcond
            simp only [Bool.or_eq_true, Bool.and_eq_true] at hcond
            rcases hcond with ⟨hfree, hcalm⟩ | hcov
            · have hcp : Ev.calm E s o = true ∨ ∀ p q, Pd L Lc p → ops[p]? = some q → pureOp q.op = true ∨ (∃ id, storeId s o.op = some id ∧ loadOff ops bef s p id q.op = true) ∨ ∃ Lx, storeId s o.op = none ∧ callIds E s o.op = some Lx ∧ loadOffs ops bef s p Lx q.op = true := hcalm.imp_right fun hpo p op hp hop => by
                have hlt : p < ops.size := by rw [← R.size]; exact hp.1.lt
                have := List.all_eq_true.1 hpo p (by simpa using hlt)
                have hon : On L p := hp.1
                unfold On at hon
                rw [hon, hop] at this
                simp only [Bool.not_true, Bool.false_or, Bool.or_eq_true, Bool.not_eq_true'] at this
                obtain ⟨_, _, hea, _⟩ := R.pend p hp
                have this := this.resolve_left fun hb' => by
                  rcases hb' with hb' | hb'
                  · exact hp.2 (ready_before hj R.closedc (hb _ _ hb'))
                  · rw [hea] at hb'; cases hb'
                unfold staysBy at this
                rw [ho] at this
                simp only [Bool.or_eq_true] at this
                refine this.imp_right fun h => ?_
                split at h
                · rename_i id hid; exact .inl ⟨id, hid, h⟩
                · rename_i hid
                  split at h
                  · rename_i Lx hLx; exact .inr ⟨Lx, hid, hLx, h⟩
                  · cases h
              exact R.calm hS hb hj hjL ho hcp hfree hcj fun ρ' s' a' w' hk R' => ih _ _ _ _ _ _ _ _ _ hc' R' hk
            · have hno : ∀ p, ¬ Pd L Lc p := fun p hp => by
                have hlt : p < ops.size := by rw [← R.size]; exact hp.1.lt
                have := List.all_eq_true.1 hcov p (by simpa using hlt)
                simp only [Bool.or_eq_true, Bool.not_eq_true'] at this
                have hon : On L p := hp.1
                unfold On at hon
                rw [hon] at this
                obtain ⟨_, _, hea, _⟩ := R.pend p hp
                rcases this.resolve_left (by simp) with hb' | hb'
                · exact hp.2 (ready_before hj R.closedc (hb _ _ hb'))
                · rw [hea] at hb'; cases hb'
              refine evOper_sound hS ho hcj (R.offs _ _ ho) (R.full hno) fun s' a' w' hk R' => ?_
              obtain ⟨ρ', I', S', hd'⟩ := R'
              have hno' : ∀ p, ¬ Pd (L.setIfInBounds j true) (Lc.setIfInBounds j true) p := fun p hp => by
                rcases hp.1.of_set with rfl | hh
                · exact hp.2 (On.self (by rw [R.sizec]; exact hjlt))
                · exact hno p ⟨hh, fun h' => hp.2 h'.set⟩
              refine ih _ _ _ ρ' n (fun _ => []) (fun _ => .any) _ s' hc' ?_ hk
              exact {
                inv := I'
                len := S'.len
                get := fun i v hv _ => S'.get i v hv
                side := hd'
                offs := R.offs
                pend := fun p hp => absurd hp (hno' p)
                slen := fun p hp => absurd hp (hno' p)
                top := fun _ q _ hq => absurd hq.1 (hno' q)
                look := fun p _ _ _ hp => absurd hp (hno' p)
                link := fun p _ _ _ hp => absurd hp (hno' p)
                same := fun p _ _ hp => absurd hp (hno' p)
                closed := R.closed.set hjL
                closedc := R.closedc.set hj
                sub := fun i hi => by
                  rcases hi.of_set with rfl | hi
                  · exact On.self (by rw [R.size]; exact hjlt)
                  · exact (R.sub i hi).set
                size := by simpa using R.size
                sizec := by simpa using R.sizec }
theorem Inv.same{σ:List Blk}{w':World}(I:Inv F w0 m0 ρ0 ρ σ w)(h:w'.heap=w.heap)(hos:w'.os=w.os)(ht:w'.tape=w.tape)(ho:w'.output=w.output):Inv F w0 m0 ρ0 ρ σ w'∧Keep (Mut F ρ σ) (Mut F ρ σ) w w':=by
 have hsh: ∀b,w'.shape? b=w.shape? b:=fun b=>by unfold World.shape?;rw[h]
 have K:Keep (Mut F ρ σ) (Mut F ρ σ) w w':=⟨by rw[h];exact Nat.le_refl _,fun b _ _=>by rw[h],fun _ _ h=>h,fun b _=>hsh b⟩
 refine⟨{
  heap:=⟨I.heap.len,fun id b g n h1 h2 h3=> ?_,fun id b g n k h1 h2 h3 h4=>by rw[h];exact I.heap.lt id b g n k h1 h2 h3 h4,I.heap.inj',I.heap.glob.keep K⟩
  pre:=I.pre
  os:=hos.trans I.os
  tape:=ht.trans I.tape
  output:=ho.trans I.output
  size:=by rw[h];exact I.size
  blk:=fun b hb hm=>by rw[h];exact I.blk b hb hm
  shape:=fun b hb=>(hsh b).trans (I.shape b hb)
  fresh:=I.fresh
  foreign:=fun b hb=>by rw[h];exact I.foreign b hb
  apart:=I.apart },K⟩
 obtain⟨a1,a2,a3⟩:=I.heap.live id b g n h1 h2 h3
 exact⟨a1.keep K (fun _ _ h=>h) (fun _ _=>by rw[h]),a2,by rw[h];exact a3⟩
theorem region_draw_sound(hS: ∀f S,E.specs f=some S→SpecOK E.P f S){id:Nat}{k:St→Prop}(hm:E.P.follows .mixedOrders=true)(hw:backward ops=true)(h:evDraw E ops (befs ops.toList []) ops.size (Array.replicate ops.size false) s k)(hX: ∀o ∈ ops.toList,Off X o)(R:Rel X F w0 m0 ρ0 s a w)
  {Q:Exit→Act→World→Prop} {r:Option Nat} (hQ: ∀s' a' w',k s'→Rel X F w0 m0 ρ0 s' a' w'→Q .normal a' w'):(Code.region id ops true).wpIn (wideR r) 0 E.P Q a w:=by
 refine wpIn_region_any hm ?_
 obtain⟨ρ,I,S,hd⟩:=R
 obtain⟨I',K⟩:=I.same (w':={ w with drawn:=w.drawn+1 }) rfl rfl rfl rfl
 have S':=S.keep K fun _ _ h=>h
 have hnone: ∀i,¬On (Array.replicate ops.size false) i:=fun i h=>by
  unfold On at h
  simp only[Array.getD_eq_getD_getElem?,Array.getElem?_replicate] at h
  split at h<;>cases h
 refine evDraw_sound hS (befs_sound _ _ (fun n _=>by simp) fun j i h=>by simp at h) hw hQ _ _ _ _ ρ _ (fun _=>[]) (fun _=> .any) _ s ?_ {
  inv:=I'
  len:=S'.len
  get:=fun i v hv _=>S'.get i v hv
  side:=hd.keep (Nat.le_refl _) fun _ _=>rfl
  offs:=fun i o ho=>hX o (by rw[Array.mem_toList_iff];exact Array.mem_of_getElem? ho)
  pend:=fun p hp=>absurd hp.1 (hnone p)
  slen:=fun p hp=>absurd hp.1 (hnone p)
  top:=fun _ q _ hq=>absurd hq.1.1 (hnone q)
  look:=fun p _ _ _ hp=>absurd hp.1 (hnone p)
  link:=fun p _ _ _ hp=>absurd hp.1 (hnone p)
  same:=fun p _ _ hp=>absurd hp.1 (hnone p)
  closed:=fun i j _ h=>absurd h (hnone j)
  closedc:=fun i j _ h=>absurd h (hnone j)
  sub:=fun i h=>absurd h (hnone i)
  size:=by simp
  sizec:=by simp } h
 have:=List.countP_le_length (p:=fun i=> !(Array.replicate ops.size false).getD i true) (l:=List.range ops.size)
 simpa using this
end
end Go.Ev
