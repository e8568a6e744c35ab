/-
  Part of the proof that TopClickOnly holds.
-/
import Derived.Test.YtgkngjjnpiheoaaT10
import Derived.OrdersIn
set_option linter.unusedVariables false
set_option linter.unusedSimpArgs false
set_option linter.unusedSectionVars false
namespace Go.Ev
open Go Go.RowKit
variable [Glob]
structure Slots(m:Nat→Prop)(ρ:List (Nat × Nat))(t:List AV)(a:Act)(w:World):Prop where
 len:t.length=a.tmps.size
 get: ∀(i:Nat) (v:AV),t[i]? = some v→ ∃u,a.tmps[i]? = some u∧Den w m ρ v u
structure XS where
 fz:Nat→Option Value
 n0:Nat
 n1:Nat:=0
 old:Nat→Prop:=fun _=>True
 mks:Nat→Prop:=fun _=>True
def Side(X:XS)(F:Nat→Prop)(a:Act)(w:World):Prop:= ((X.n0≤w.heap.size∧X.n1≤w.heap.size∧ ∀b,F b→X.old b∨X.n1≤b)∧ ∃Ds:List Nat,a.defers=Ds.map (fun D=>{ target:= .collected D,args := #[] })∧Ds.Nodup∧ ∀D ∈ Ds,F D∧(X.n0≤D∧(X.mks D∨X.n1≤D))∧w.heap[D]? = some (.deferred (some [])))∧ ∀(i:Nat) (v:Value),X.fz i=some v→a.tmps[i]? = some v
def Off(X:XS)(o:Oper):Prop:= ∀d,o.dst=some d→X.fz d=none
theorem put_defers{a:Act}{d:Option Tmp}{u:Value}:(a.put d u).defers=a.defers:=by cases d<;>rfl
section
variable {X:XS} {F:Nat→Prop} {a:Act} {w w':World}
theorem Side.keep(h:Side X F a w)(hs:w.heap.size≤w'.heap.size)(K: ∀D,F D→w'.heap[D]? = w.heap[D]?):Side X F a w':=by
 obtain⟨⟨h0,Ds,h1,h2,h3⟩,h4⟩:=h
 exact⟨⟨⟨Nat.le_trans h0.1 hs,Nat.le_trans h0.2.1 hs,h0.2.2⟩,Ds,h1,h2,fun D hD=>⟨(h3 D hD).1,(h3 D hD).2.1,(K D (h3 D hD).1).trans (h3 D hD).2.2⟩⟩,h4⟩
theorem Side.put(h:Side X F a w){o:Oper}(hX:Off X o)(u:Value):Side X F (a.put o.dst u) w:=by
 refine⟨by rw[put_defers];exact h.1,fun i v hi=> ?_⟩
 have h1:=h.2 i v hi
 unfold Off at hX
 cases hd:o.dst with
 |none=>exact h1
 |some d=>
  have hne:d≠i:=fun e=>by rw[← e,hX d hd] at hi;cases hi
  simp only[Act.put]
  rw[Array.getElem?_setIfInBounds_ne hne]
  exact h1
theorem Side.start(t:Array Value):Side { fz:=fun _=>none,n0:=w.heap.size } F { tmps:=t,defers:=[] } w:=⟨⟨⟨Nat.le_refl _,Nat.zero_le _,fun _ _=> .inl trivial⟩,[],rfl,List.nodup_nil,fun D h=>by simp at h⟩,fun i v h=>by cases h⟩
end
theorem Inv.rebase{F:Nat→Prop}{w0 w:World}{m0:Nat→Prop}{ρ0 ρ:List (Nat × Nat)}{σ:List Blk}(I:Inv F w0 m0 ρ0 ρ σ w):Inv F w (LMut ρ σ) ρ ρ σ w where
 heap:=I.heap
 pre:=⟨[],by simp⟩
 os:=rfl
 tape:=rfl
 output:=rfl
 size:=Nat.le_refl _
 blk:=fun _ _ _=>rfl
 shape:=fun _ _=>rfl
 fresh:=fun _ h=> .inr h
 foreign:=I.foreign
 apart:=I.apart
theorem Inv.trans{F:Nat→Prop}{w0 w w':World}{m0:Nat→Prop}{ρ0 ρ ρ':List (Nat × Nat)}{σ σ':List Blk}(I:Inv F w0 m0 ρ0 ρ σ w)(I':Inv F w (LMut ρ σ) ρ ρ' σ' w'):Inv F w0 m0 ρ0 ρ' σ' w' where
 heap:=I'.heap
 pre:=by
  obtain⟨r,h⟩:=I.pre
  obtain⟨r',h'⟩:=I'.pre
  exact⟨r++r',by rw[h',h,List.append_assoc]⟩
 os:=I'.os.trans I.os
 tape:=I'.tape.trans I.tape
 output:=I'.output.trans I.output
 size:=Nat.le_trans I.size I'.size
 blk:=fun b hb hm=>(I'.blk b (Nat.lt_of_lt_of_le hb I.size) fun hl=>by
  rcases I.fresh b hl with h|h
  ·omega
  ·exact hm h).trans (I.blk b hb hm)
 shape:=fun b hb=>(I'.shape b (Nat.lt_of_lt_of_le hb I.size)).trans (I.shape b hb)
 fresh:=fun g hg=>by
  rcases I'.fresh g hg with h|h
  ·exact .inl (Nat.le_trans I.size h)
  ·exact I.fresh g h
 foreign:=I'.foreign
 apart:=I'.apart
theorem Inv.calmF{F:Nat→Prop}{w0 w w':World}{m0:Nat→Prop}{ρ0 ρ ρ':List (Nat × Nat)}{σ σ':List Blk}(I:Inv F w0 m0 ρ0 ρ σ w)(I':Inv F w (LMut ρ σ) ρ ρ' σ' w'): ∀D,F D→w'.heap[D]? = w.heap[D]? := fun D hD=>I'.blk D (I.foreign D hD) fun hl=>I.apart D hl hD
def Rel(X:XS)(F:Nat→Prop)(w0:World)(m0:Nat→Prop)(ρ0:List (Nat × Nat))(s:St)(a:Act)(w:World):Prop:= ∃ρ,Inv F w0 m0 ρ0 ρ s.σ w∧Slots (Mut F ρ s.σ) ρ s.t a w∧Side X F a w
section
variable {X:XS} {F:Nat→Prop} {E:Env} {w0 w w':World} {m m' m0:Nat→Prop} {ρ0 ρ ρ':List (Nat × Nat)} {s:St} {t:List AV} {a:Act}
theorem Slots.keep(h:Slots m ρ t a w)(K:Keep m m' w w')(hρ: ∀(id:Nat) (g:Nat × Nat),ρ[id]? = some g→ρ'[id]? = some g):Slots m' ρ' t a w':=
 ⟨h.len,fun i v hv=>by
  obtain⟨u,h1,h2⟩:=h.get i v hv
  exact⟨u,h1,h2.keep K hρ⟩⟩
theorem Slots.put(h:Slots m ρ t a w){d:Option Tmp}{v:AV}{u:Value}(hd:Den w m ρ v u):Slots m ρ (setT t d v) (a.put d u) w:=by
 cases d with
 |none=>exact h
 |some d=>
  refine⟨by simp[setT,Act.put,h.len],fun i x hx=> ?_⟩
  simp only[setT] at hx
  simp only[Act.put]
  by_cases hi:i=d
  ·subst hi
   have hl:i<t.length:=by
    have:=(List.getElem?_eq_some_iff.1 hx).1
    simpa using this
   rw[List.getElem?_set_self hl] at hx
   cases hx
   refine⟨u,?_,hd⟩
   rw[Array.getElem?_setIfInBounds_self_of_lt (by rw[← h.len];exact hl)]
  ·rw[List.getElem?_set_ne (fun e=>hi e.symm)] at hx
   obtain⟨y,h1,h2⟩:=h.get i x hx
   exact⟨y,by rw[Array.getElem?_setIfInBounds_ne (fun e=>hi e.symm)];exact h1,h2⟩
theorem Slots.setB(h:Slots m ρ t a w){d:Tmp}{b:Bool}(hb:a.tmps[d]? = some (.bool b)):Slots m ρ (t.set d (.one (.bool b))) a w:=by
 refine⟨by simp[h.len],fun i x hx=> ?_⟩
 by_cases hi:i=d
 ·subst hi
  have hl:i<t.length:=by
   have:=(List.getElem?_eq_some_iff.1 hx).1
   simpa using this
  rw[List.getElem?_set_self hl] at hx
  cases hx
  exact⟨_,hb,rfl⟩
 ·rw[List.getElem?_set_ne (fun e=>hi e.symm)] at hx
  exact h.get i x hx
theorem slot_bool(h:Slots m ρ t a w){d:Tmp}{b:Bool}(hd:t.getD d .any= .one (.bool b)):a.tmps[d]? = some (.bool b):=by
 cases ht:t[d]? with
 |none=>simp[List.getD,ht] at hd
 |some v=>
  obtain⟨u,h1,h2⟩:=h.get d v ht
  simp only[List.getD,ht,Option.getD_some] at hd
  subst hd
  cases h2
  exact h1
theorem ops_den(h:Slots m ρ s.t a w)(x:Operand):Den w m ρ (s.ov x) (a.eval x):=ov_sound h.get x
theorem evM_wpIn{o:Oper}{x:Option (Bool × AV)}{y:Bool × AV}(_hv:x=some y){u:Value}(h1:(execOp a.eval o).run E.P w= .ok (.value u) w){next:Act→World→Prop}{Q:Exit→Act→World→Prop}{r:Option Nat}(hn:next (a.put o.dst u) w):
  o.wpIn (wideR r) 0 E.P a w next Q:=by
 refine⟨fun _ _=>trivial,?_⟩
 have hnd: ∀c,o.op≠ .defer c:=by
  intro c hc
  unfold execOp at h1
  rw[hc] at h1
  simp only[Sem.run_bind] at h1
  cases hr:(resolve a.eval c o.type).run E.P w with
  |ok v w'=>rw[hr] at h1;simp at h1
  |halt v w'=>rw[hr] at h1;simp at h1
 rw[Oper.semAt_eq _ _ _ hnd,h1]
 exact hn
theorem spl_sound{f:Int→AV}{i:Int}{k:AV→Prop}: ∀(n:Nat) (j:Int),j≤i→i<j+n→spl f i k n j→k (f i)
 |0,j,h1,h2,_=>by omega
 |1,j,h1,h2,h=>by
  have:i=j:=by omega
  subst this
  exact h
 |n+2,j,h1,h2,h=>by
  unfold spl at h
  by_cases e:i=j
  ·subst e
   rw[beq_self_eq_true,cond_true] at h
   exact h
  ·rw[beq_eq_false_iff_ne.2 e,cond_false] at h
   exact spl_sound (n+1) (j+1) (by omega) (by omega) h
theorem arrIx_pos{P:Program}{s:St}{o:Op}{i:Int}{n:Nat}{f:Int→AV}(h:arrIx P s o=some (i,n,f)){c:Bool}{v:AV}(hv:evM P s o=some (c,v)):f i=v∧(c=true→0≤i∧i<n):=by
 unfold arrIx at h
 split at h
 case h_2=>cases h
 rename_i t x ix
 split at h
 case h_4=>cases h
 case h_2=>
  rename_i e id wd kd j hu hx hix
  split at h
  case h_2=>cases h
  rename_i l hb
  split at h
  case isFalse=>cases h
  cases h
  have hv:evIndexAddr P s.σ t (s.ov x) (s.ov ix)=some (c,v):=hv
  rw[hx,hix] at hv
  refine⟨by dsimp only;rw[hv],fun hc=> ?_⟩
  unfold evIndexAddr at hv
  rw[hu] at hv
  dsimp only at hv
  have hsl:svLen s.σ (.own id wd)=some l.length:=by simp[svLen,hb,Blk.live,Blk.count]
  rw[hsl] at hv
  split at hv
  ·rename_i he
   cases he
  ·rename_i he1 _ he
   cases he
   split at hv
   ·cases hv
    simp only[Option.some.injEq] at he1
    subst he1
    simpa using hc
   ·cases hv
  ·rename_i he
   cases he
  ·cases hv
 ·rename_i n' e id wd i' c' kd j hu hx hix
  split at h
  case h_2=>cases h
  split at h
  case isFalse=>cases h
  cases h
  have hv:evIndexAddr P s.σ t (s.ov x) (s.ov ix)=some (c,v):=hv
  rw[hx,hix] at hv
  refine⟨by dsimp only;rw[hv],fun hc=> ?_⟩
  unfold evIndexAddr at hv
  rw[hu] at hv
  dsimp only at hv
  split at hv
  case h_2=>cases hv
  cases hv
  simpa using hc
 ·rename_i n' e g c' kd j hu hx hix
  split at h
  case isFalse=>cases h
  cases h
  have hv:evIndexAddr P s.σ t (s.ov x) (s.ov ix)=some (c,v):=hv
  rw[hx,hix] at hv
  refine⟨by dsimp only;rw[hv],fun hc=> ?_⟩
  unfold evIndexAddr at hv
  rw[hu] at hv
  dsimp only at hv
  split at hv
  case h_2=>cases hv
  cases hv
  simpa using hc
theorem evDo_mov{o:Oper}{k:St→Prop}(hm:movable o.op=true)(h:evDo E o s k): ∃v,evM E.P s o.op=some (true,v)∧k ⟨setT s.t o.dst v,s.σ⟩:=by
 unfold evDo at h
 rw[if_pos hm] at h
 split at h
 case h_2=>exact h.elim
 rename_i c v hv
 split at h
 ·rename_i j n f hf
  obtain⟨rfl,hk⟩:=cond_pos h
  obtain⟨e,hc⟩:=arrIx_pos hf hv
  have hc:=hc rfl
  have hk:=spl_sound n 0 hc.1 (by omega) hk
  rw[e] at hk
  exact⟨v,hv,hk⟩
 ·obtain⟨rfl,hk⟩:=cond_pos h
  exact⟨v,hv,hk⟩
theorem evDo_sound(hS: ∀f S,E.specs f=some S→SpecOK E.P f S){o:Oper}{k:St→Prop}(h:evDo E o s k)(hX:Off X o)(R:Rel X F w0 m0 ρ0 s a w){next:Act→World→Prop}{Q:Exit→Act→World→Prop}
  (hnext: ∀s' a' w',k s'→Rel X F w0 m0 ρ0 s' a' w'→next a' w') {r:Option Nat}:o.wpIn (wideR r) 0 E.P a w next Q:=by
 obtain⟨ρ,I,L,hd⟩:=R
 by_cases hm:movable o.op=true
 ·obtain⟨v,hv,hk⟩:=evDo_mov hm h
  obtain⟨u,h1,h2⟩:=evM_sound I.heap hv (f:=a.eval) fun x _=>ops_den L x
  refine evM_wpIn hv h1 ?_
  exact hnext _ _ _ hk ⟨ρ,I,L.put h2,hd.put hX _⟩
 ·unfold evDo at h
  rw[if_neg hm] at h
  split at h
  ·rename_i c v hv
   obtain⟨rfl,hk⟩:=cond_pos h
   obtain⟨u,h1,h2⟩:=evM_sound I.heap hv (f:=a.eval) fun x _=>ops_den L x
   refine evM_wpIn hv h1 ?_
   exact hnext _ _ _ hk ⟨ρ,I,L.put h2,hd.put hX _⟩
  ·refine evN_sound hS I.rebase h (fun x _=>ops_den L x) ?_
   rintro u w' ⟨v,σ',ρ',hk,I',⟨r,rfl⟩,K,hden,_⟩
   exact hnext _ _ _ hk ⟨ρ++r,I.trans I',(L.keep K fun _ _ h=>getElem?_append_some h).put hden,(hd.keep K.size (I.calmF I')).put hX _⟩
theorem evOper_sound(hS: ∀f S,E.specs f=some S→SpecOK E.P f S){ops:Array Oper}{i:Nat}{o:Oper}(hi:ops[i]? = some o){k:St→Prop}(h:evOper E ops o s k)(hX:Off X o)(R:Rel X F w0 m0 ρ0 s a w){next:Act→World→Prop}{Q:Exit→Act→World→Prop}
  (hnext: ∀s' a' w',k s'→Rel X F w0 m0 ρ0 s' a' w'→next a' w') {r:Option Nat}:wpOpIn (wideR r) 0 E.P ops Q i next a w:=by
 unfold wpOpIn
 rw[hi]
 dsimp only
 unfold evOper at h
 split at h
 ·rename_i hg
  rw[if_pos (by simp[Region.wanted,hg])]
  exact(evDo_sound hS h hX R hnext)
 ·rename_i j want hg
  split at h
  case h_2=>exact h.elim
  rename_i d hd
  have skip: ∀{s:St},Rel X F w0 m0 ρ0 s a w→k ⟨setT s.t o.dst skipV,s.σ⟩→next (a.put o.dst undef) w:=by
   rintro s ⟨ρ,I,L,hdf⟩ hk
   exact hnext _ _ _ hk ⟨ρ,I,L.put ⟨[],rfl,trivial⟩,hdf.put hX _⟩
  split at h
  case h_3=>exact h.elim
  case h_2 ht=>
   obtain⟨ρ,I,L,hdf⟩:=R
   have ht':s.t[d]? = some (.tup []):=by
    cases hx:s.t[d]? with
    |none=>simp[List.getD,hx] at ht
    |some v=>simp[List.getD,hx] at ht;rw[ht]
   obtain⟨u,h1,vs,h2,h3⟩:=L.get d _ ht'
   have h4:vs=[]:=by
    cases vs with
    |nil=>rfl
    |cons a l=>exact h3.elim
   subst h4
   have hy:yielded ops a.tmps j=none:=by
    unfold yielded
    rw[hd]
    simp[h1,h2]
   rw[if_neg (by simp[Region.wanted,hg,hy])]
   exact⟨fun _ _=>trivial,skip ⟨ρ,I,L,hdf⟩ h⟩
  rename_i b hb
  obtain⟨ρ,I,L,hdf⟩:=R
  have hslot:=slot_bool L hb
  have hy:yielded ops a.tmps j=some b:=by
   unfold yielded
   rw[hd]
   simp[hslot]
  have Rb:Rel X F w0 m0 ρ0 (setB s d b) a w:=⟨ρ,I,L.setB hslot,hdf⟩
  have hw:Region.wanted o (yielded ops a.tmps)=(b==want):=by
   simp[Region.wanted,hg,hy]
  rw[hw]
  cases want<;>cases b<;>dsimp only at h
  ·exact(evDo_sound hS h hX Rb hnext)
  ·exact⟨fun _ _=>trivial,skip Rb h⟩
  ·exact⟨fun _ _=>trivial,skip Rb h⟩
  ·exact(evDo_sound hS h hX Rb hnext)
theorem evOps_sound(hS: ∀f S,E.specs f=some S→SpecOK E.P f S){r:Option Nat}{ops:Array Oper}{Q:Exit→Act→World→Prop}{k:St→Prop}(hQ: ∀s' a' w',k s'→Rel X F w0 m0 ρ0 s' a' w'→Q .normal a' w'):
  ∀(l:List Oper) (j:Nat) (s:St) (a:Act) (w:World),(∀i,i<l.length→l[i]? = ops[j+i]?)→(∀o ∈ l,Off X o)→evOps E ops l s k→Rel X F w0 m0 ρ0 s a w→wpOpsIn (wideR r) 0 E.P ops Q (List.range' j l.length) a w
 |[],j,s,a,w,_,_,h,R=>hQ s a w h R
 |o::l,j,s,a,w,hl,hX,h,R=>by
  simp only[List.length_cons,List.range'_succ]
  rw[wpOpsIn_cons]
  have h0:=hl 0 (by simp)
  simp only[List.getElem?_cons_zero,Nat.add_zero] at h0
  refine evOper_sound hS h0.symm h (hX o (by simp)) R fun s' a' w' hk R'=> ?_
  refine evOps_sound hS hQ l (j+1) s' a' w' (fun i hi=> ?_) (fun o ho=>hX o (by simp[ho])) hk R'
  have:=hl (i+1) (by simp;omega)
  rw[List.getElem?_cons_succ] at this
  rw[this]
  congr 1
  omega
end
end Go.Ev
namespace Go.Ev
open Go Go.RowKit
variable [Glob]
section
variable {P:Program} {σ e:List Blk}
theorem getE{id:Nat}{b:Blk}(h:σ[id]? = some b):(σ++e)[id]? = some b:=by
 rw[List.getElem?_append_left (List.getElem?_eq_some_iff.1 h).1];exact h
theorem svLen_mono{s:SV}{n:Nat}(h:svLen σ s=some n):svLen (σ++e) s=some n:=by
 cases s<;>simp only[svLen] at h ⊢<;>try exact h
 case own id w=>
  cases hb:σ[id]? with
  |none=>rw[hb] at h;cases h
  |some b=>rw[hb] at h;rw[getE hb];exact h
theorem loadSVs_mono{p:SV}{n:Nat}{r:Bool × List SV}(h:loadSVs σ p n=some r):loadSVs (σ++e) p n=some r:=by
 cases p<;>simp only[loadSVs] at h ⊢<;>try exact h
 case ptr id w i c=>
  cases hb:σ[id]? with
  |none=>rw[hb] at h;cases h
  |some b=>rw[hb] at h;rw[getE hb];exact h
theorem cutSV_mono{x:SV}{l h':Nat}{r:Bool × SV}(h:cutSV σ x l h'=some r):cutSV (σ++e) x l h'=some r:=by
 cases x<;>simp only[cutSV] at h ⊢<;>try exact h
 case own id w=>
  cases hb:svLen σ (.own id w) with
  |none=>rw[hb] at h;cases h
  |some b=>rw[hb] at h;rw[svLen_mono hb];exact h
theorem evLen_mono{t:TypeId}{x:AV}{r:Bool × AV}(h:evLen P σ t x=some r):evLen P (σ++e) t x=some r:=by
 unfold evLen at h ⊢
 split at h
 ·exact h
 ·cases h
 ·rename_i s hs hn
  cases hb:svLen σ s with
  |none=>rw[hb] at h;cases h
  |some n=>rw[hb] at h;rw[svLen_mono hb];exact h
 ·exact h
 ·split at h
  ·rename_i hb
   rw[getElem?_append_some hb]
   exact h
  ·cases h
 ·cases h
theorem evIndexAddr_mono{t:TypeId}{x ix:AV}{r:Bool × AV}(h:evIndexAddr P σ t x ix=some r):evIndexAddr P (σ++e) t x ix=some r:=by
 unfold evIndexAddr at h ⊢
 split at h
 ·exact h
 ·exact h
 ·exact h
 ·rename_i j e' s _
  cases hb:svLen σ s with
  |none=>rw[hb] at h;cases h
  |some n=>rw[hb] at h;rw[svLen_mono hb];exact h
 ·cases h
theorem evSlice_mono{t:TypeId}{x:AV}{lo hi mx:Option AV}{r:Bool × AV}(h:evSlice P σ t x lo hi mx=some r):evSlice P (σ++e) t x lo hi mx=some r:=by
 unfold evSlice at h ⊢
 split at h
 ·rename_i e' s hu
  cases hb:svLen σ s with
  |none=>rw[hb] at h;cases h
  |some n=>
   rw[hb] at h
   rw[svLen_mono hb]
   dsimp only at h ⊢
   split at h
   ·split at h
    ·rename_i c1 l c2 h2 sz _ _ _ hw
     rw[if_pos hw]
     cases hc:cutSV σ s l h2 with
     |none=>rw[hc] at h;cases h
     |some q=>
      rw[hc] at h
      rw[cutSV_mono hc]
      exact h
    ·cases h
   ·cases h
 ·exact h
 ·rename_i n e' id wd i c hu
  split at h
  case isFalse=>cases h
  rename_i hn
  rw[if_pos hn]
  cases hb:σ[id]? with
  |none=>
   rw[hb] at h
   split at h<;>first|cases h|(rename_i hh;cases hh)|(rename_i hh _;cases hh)
  |some b=>
   rw[hb] at h
   rw[getE hb]
   exact h
 ·exact h
 ·exact h
 ·cases h
end
theorem evM_mono{P:Program}{s s':St}{o:Op}{r:Bool × AV}(h:evM P s o=some r)(he: ∃e,s'.σ=s.σ++e)(hx: ∀x ∈ o.operands,s'.ov x=s.ov x):evM P s' o=some r:=by
 obtain⟨e,he⟩:=he
 cases o with
 |move x=>simp only[evM] at h ⊢;rw[hx x (by simp[Op.operands])];exact h
 |assign x=>simp only[evM] at h ⊢;rw[hx x (by simp[Op.operands])];exact h
 |pick c a b=>simp only[evM] at h ⊢;rw[hx c (by simp[Op.operands]),hx a (by simp[Op.operands]),hx b (by simp[Op.operands])];exact h
 |load t a=>
  simp only[evM] at h ⊢
  rw[hx a (by simp[Op.operands]),he]
  split at h
  ·rename_i p n hp hn
   split at h
   ·cases hl:loadSVs s.σ p n with
    |none=>rw[hl] at h;cases h
    |some q=>rw[hl] at h;rw[loadSVs_mono hl];exact h
   ·cases hl:loadSVs s.σ p 1 with
    |none=>rw[hl] at h;cases h
    |some q=>rw[hl] at h;rw[loadSVs_mono hl];exact h
   ·cases h
  ·cases h
 |nilCheck x=>simp only[evM] at h ⊢;rw[hx x (by simp[Op.operands])];exact h
 |binOp op xt x y _=>simp only[evM] at h ⊢;rw[hx x (by simp[Op.operands]),hx y (by simp[Op.operands])];exact h
 |unOp op _ x=>simp only[evM] at h ⊢;rw[hx x (by simp[Op.operands])];exact h
 |convert src dst x=>simp only[evM] at h ⊢;rw[hx x (by simp[Op.operands])];exact h
 |makeFunc fn first cap=>
  simp only[evM] at h ⊢
  rw[show cap.toList.map s'.ov=cap.toList.map s.ov from List.map_congr_left fun x hm=>hx x (by simp[Op.operands];first|exact .inr (.inr (by simpa using hm))|exact .inr (by simpa using hm)|simpa using hm)]
  exact h
 |slice t x lo hi mx=>
  cases mx with
  |none=>
   simp only[evM] at h ⊢
   rw[hx x (by simp[Op.operands]),he]
   rw[show lo.map s'.ov=lo.map s.ov from by cases lo with|none=>rfl|some y=>simp[hx y (by simp[Op.operands])],show hi.map s'.ov=hi.map s.ov from by cases hi with|none=>rfl|some y=>simp[hx y (by simp[Op.operands])]]
   exact evSlice_mono h
  |some y=>
   cases hi with
   |none=>cases h
   |some z=>
    simp only[evM] at h ⊢
    rw[hx x (by simp[Op.operands]),hx y (by simp[Op.operands]),hx z (by simp[Op.operands])]
    rw[show lo.map s'.ov=lo.map s.ov from by cases lo with|none=>rfl|some y=>simp[hx y (by simp[Op.operands])]]
    exact h
 |fieldAddr t x f=>simp only[evM] at h ⊢;rw[hx x (by simp[Op.operands])];exact h
 |field t x f=>simp only[evM] at h ⊢;rw[hx x (by simp[Op.operands])];exact h
 |indexAddr t x ix=>simp only[evM] at h ⊢;rw[hx x (by simp[Op.operands]),hx ix (by simp[Op.operands]),he];exact evIndexAddr_mono h
 |index t x ix=>simp only[evM] at h ⊢;rw[hx x (by simp[Op.operands]),hx ix (by simp[Op.operands])];exact h
 |extract x i=>simp only[evM] at h ⊢;rw[hx x (by simp[Op.operands])];exact h
 |build t parts=>
  simp only[evM] at h ⊢
  have e1:(parts.toList.map fun p=>(p.1,s'.ov p.2))=parts.toList.map fun p=>(p.1,s.ov p.2):=List.map_congr_left fun p hm=>by
   rw[hx p.2 (by simp[Op.operands];exact⟨p.1,by simpa using hm⟩)]
  rw[e1]
  exact h
 |call c=>
  obtain⟨callee,args,ts⟩:=c
  have hargs:args.toList.map s'.ov=args.toList.map s.ov:=List.map_congr_left fun x hm=>hx x (by simp[Op.operands,Call.operands];first|exact .inr (by simpa using hm)|simpa using hm)
  cases callee with
  |value f=>simp[evM] at h
  |invoke r m=>simp[evM] at h
  |builtin b=>
   cases b<;>first
    |(simp only[evM] at h;cases h;done)
    |(simp only[evM] at h ⊢;rw[hargs];exact h;done)
    |skip
   simp only[evM] at h ⊢
   split at h
   ·rename_i x t _ ha ht
    rw[ha] at hargs
    simp only[List.map_cons,List.map_nil,List.cons.injEq,and_true] at hargs
    rw[hargs,he]
    exact evLen_mono h
   ·cases h
 |_=>simp only[evM] at h;cases h
end Go.Ev
