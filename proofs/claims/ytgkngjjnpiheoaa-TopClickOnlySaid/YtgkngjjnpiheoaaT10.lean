/-
  Part of the proof that TopClickOnly holds.
-/
import Derived.Test.YtgkngjjnpiheoaaT08
import Derived.Test.YtgkngjjnpiheoaaT09
import Derived.WideLaws
import Derived.Laws.BytesString
import Derived.AtR
import Derived.Laws.IdiomStrings
import Derived.Laws.Cover3
import Derived.Laws.Build
set_option linter.unusedVariables false
set_option linter.unusedSimpArgs false
set_option linter.unusedSectionVars false
namespace Go.Ev
open Go Go.RowKit
variable [Glob]
theorem zeros_get{w:World}{m:Nat→Prop}{ρ:List (Nat × Nat)}{k:IntKind}: ∀{l:List SV} {vs:List Value},zeros k l=true→All2 (DenS w m ρ) l vs→ ∀v ∈ vs,v= .int k 0
 |[],[],_,_=>fun v hv=>by simp at hv
 |[],_::_,_,h=>h.elim
 |_::_,[],_,h=>h.elim
 |s::l,u::vs,h,hl=>by
  unfold zeros at h
  split at h
  ·rename_i he;cases he
  ·rename_i k' n l' he
   cases he
   simp only[Bool.and_eq_true,decide_eq_true_eq,beq_iff_eq] at h
   obtain⟨rfl,rfl,h⟩:=h
   intro v hv
   rcases List.mem_cons.1 hv with rfl|hv
   ·exact hl.1
   ·exact zeros_get h hl.2 v hv
  ·cases h
section
variable {F:Nat→Prop} {E:Env} {w0 w:World} {m0:Nat→Prop} {ρ0 ρ:List (Nat × Nat)} {s:St}
theorem made_get{z:Array Value}{n:Nat}{k:IntKind}(hz: ∀v ∈ z.toList,v= .int k 0)(hs:0<z.size){j:Nat}(hj:j<n):(madeCells z n)[j]? = some (.int k 0):=by
 have hm:j%z.size<z.size:=Nat.mod_lt _ hs
 simp only[madeCells,Array.getElem?_map,Array.getElem?_range,hj,if_true,Option.map_some,Option.some.injEq]
 rw[getElem!_pos z _ hm]
 exact hz _ (by simp)
theorem evMake_sound(I:Inv F w0 m0 ρ0 ρ s.σ w){t e:TypeId}{by_ sz:Nat}{z:List SV}{a b:Int}{ka kb:IntKind}{r:Row}{k:AV→List Blk→Prop}{k':IntKind}(hu:E.P.underlying t=some (.slice e))(hb:bytesT E.P e=some by_)(hz:zeroT E.P e=some z)(hs:sizeT E.P e=some sz)
  (h0:0≤a) (hab:a≤b) (hbb:b*(by_:Int)≤140737488355328∧b≤140737488355328) (hzz:zeros k' z=true) (hzl:z.length=sz) (hpos:0<sz)
  (hr:r.count=a.toNat∧r.width=sz) (hrc: ∀(w:World) (m:Nat→Prop) (get:Nat→Option Value),(∀j,j<a.toNat*sz→get j=some (.int k' 0))→RowCells w m get r)
  (hk:k (.one (.own s.σ.length sz)) (s.σ++[.row e r])):
  ∃u w',(Instr.makeSlice t (.int ka a) (.int kb b)).run E.P w= .ok u w'∧Done F w0 m0 ρ0 ρ s.σ w True k u w':=by
 obtain⟨i,zv,hi,hib,his,hiz,hzc⟩:=info_of hb hs hz
 have hzs:zv.cells.size=sz:=by have:=svcs_length hzc;simp at this;omega
 have hall:=zeros_get (w:=w) (m:=fun _=>False) (ρ:=[]) hzz (svcs_sound hzc)
 have hrun:=run_make (P:=E.P) w t e i zv hu hi hiz ka kb a b h0 hab (by rw[hib];have:=hbb.1;rw[Int.mul_comm] at this;omega) (by omega)
 obtain⟨K,hI⟩:=grow (n:=r.count) (b:= .row e r) (w':=w.alloc (.cells (madeCells zv.cells (b.toNat*i.size)) e)) I rfl (fun i b h _=>h) rfl rfl rfl rfl trivial
 have hg:(w.alloc (.cells (madeCells zv.cells (b.toNat*i.size)) e)).heap[w.heap.size]? = some (.cells (madeCells zv.cells (b.toNat*i.size)) e (0,0)):=heap_alloc_new w _
 refine⟨_,_,hrun,_,_,_,hk,hI ⟨_,hg,hrc _ _ _ fun j hj=> ?_⟩ rfl,⟨_,rfl⟩,K,⟨w.heap.size,r.count,b.toNat,e,_,?_,by rw[hr.1],by omega,by unfold maxLen;omega,by unfold World.shape?;rw[hg],?_⟩,fun _=>⟨⟨_,rfl⟩,Prefix_push rfl⟩⟩
 ·refine made_get hall (by omega) (Nat.lt_of_lt_of_le hj ?_)
  rw[his]
  exact Nat.mul_le_mul_right _ (by omega)
 ·rw[← I.heap.len];simp
 ·rw[size_madeCells,his]
  exact Nat.le_refl _
theorem frzEls_sound(I:Inv F w0 m0 ρ0 ρ s.σ w){m':Nat→Prop}(hm: ∀b,b<w.heap.size→m' b→Mut F ρ s.σ b){ts:List TypeId}: ∀{els els':List (List SV)} {vss:List (List Value)},(∀id ∈ els.flatten.flatMap (idsV s.σ),∀g n,ρ[id]? = some (g,n)→¬m' g)→frzEls E.P s.σ ts els=some (true,els')→All2 (All2 (DenS w (Mut F ρ s.σ) ρ)) els vss→All2 (All2 (DenS w m' ρ)) els' vss∧els'.length=els.length
 |[],els',vss,_,h,hl=>by
  simp only[frzEls,Option.some.injEq,Prod.mk.injEq,true_and] at h
  subst h
  cases vss with
  |nil=>exact⟨trivial,rfl⟩
  |cons a l=>exact hl.elim
 |l::els,els',vss,hv,h,hl=>by
  cases vss with
  |nil=>exact hl.elim
  |cons u vss=>
   simp only[frzEls] at h
   split at h
   ·rename_i c v d k h1 h2
    simp only[Option.some.injEq,Prod.mk.injEq,Bool.and_eq_true] at h
    obtain⟨⟨rfl,rfl⟩,rfl⟩:=h
    have h3:=viewSs_sound (f:=some) (ρL:=ρ) I.heap (fun i j hij g hg=>by cases hij;exact hg) hm (fun id hid=>hv id (by simp only[List.flatten_cons,List.flatMap_append,List.mem_append];exact .inl hid)) h1 hl.1
    obtain⟨h4,h5⟩:=frzEls_sound I hm (fun id hid=>hv id (by simp only[List.flatten_cons,List.flatMap_append,List.mem_append];exact .inr hid)) h2 hl.2
    have e: ∀(v:List SV),v.map (mapIds some)=v:=by
     intro v
     have: ∀x:SV,mapIds some x=x:=by
      intro x
      have hc: ∀c:List Nat,mapOpt some c=some c:=by
       intro c
       induction c with
       |nil=>rfl
       |cons a l ih=>simp[mapOpt,ih]
      cases x<;>simp[mapIds,hc]
     rw[List.map_congr_left (fun x _=>this x),List.map_id']
    rw[e] at h3
    exact⟨⟨h3,h4⟩,by simp[h5]⟩
   ·cases h
theorem evFreeze_sound(I:Inv F w0 m0 ρ0 ρ s.σ w){t e:TypeId}{len sz:Nat}{parts:Array (Nat × Operand)}{ts:List TypeId}{els els':List (List SV)}{z:List SV}{b:Blk}{k:AV→List Blk→Prop}{f:Operand→Value}
  (hu:E.P.underlying t=some (.slice e)) (hp:parts.toList.map (fun p=>(p.1,f p.2))=((parts.toList.map fun p=>f p.2).zipIdx 0).map (fun p=>(p.2,p.1))) (hels:All2 (All2 (DenS w (Mut F ρ s.σ) ρ)) els (parts.toList.map fun p=>(f p.2).cells.toList))
  (hfz:frzEls E.P s.σ ts els=some (true,els')) (hs:sizeT E.P e=some sz) (hz:zeroT E.P e=some z) (hlen:els.length=len)
  (hall:els'.all (·.length==sz)=true) (hbig:len*sz≤16777216) (hlb:len≤16777216) (hr:rowOf E.P e els'=some b) (hw:b.width=sz) (hV:((els.flatten.flatMap (idsV s.σ)).all fun i=>solidAt s.σ i)=true)
  (hk:k (.one (.own s.σ.length sz)) (killAll (els.flatten.flatMap (idsV s.σ)) s.σ++[b])):
  ∃u w',(Instr.buildSlice t len (parts.map fun(i,x)=>(i,f x))).run E.P w= .ok u w'∧Done F w0 m0 ρ0 ρ s.σ w False k u w':=by
 generalize hVd:els.flatten.flatMap (idsV s.σ)=V at *
 have hLM: ∀b,LMut ρ (killAll V s.σ) b→LMut ρ s.σ b:=by
  rintro b ⟨id,c,n,g,h1,h2,h3,h4⟩
  exact⟨id,c,n,g,(killAll_live _ _ h1 h2).1,h2,h3,h4⟩
 have hM: ∀b,Mut F ρ (killAll V s.σ) b→Mut F ρ s.σ b:=fun b hb=>hb.imp_right (hLM b)
 have Ik:Inv F w0 m0 ρ0 ρ (killAll V s.σ) w:={ I with
  heap:=⟨by rw[killAll_length];exact I.heap.len,fun id b g n h1 h2 h3=>by
   obtain⟨a1,a2,a3⟩:=I.heap.live id b g n (killAll_live _ _ h1 h3).1 h2 h3
   exact⟨a1.keep (Keep.same fun b _ hb=>hM b hb) (fun _ _ h=>h) fun _ _=>rfl,a2,a3⟩,fun id b g n k h1 h2 h3 h4=>I.heap.lt id b g n k (killAll_live _ _ h1 h3).1 h2 h3 h4,fun i j b b' g g' n n' k h1 h2 h3 h4 h5 h6 h7 h8=>I.heap.inj' i j b b' g g' n n' k (killAll_live _ _ h1 h3).1 (killAll_live _ _ h2 h4).1 h3 h4 h5 h6 h7 h8,I.heap.glob.keep (Keep.same fun b _ hb=>hM b hb)⟩
  fresh:=fun g hg=>I.fresh g (hLM g hg)
  apart:=fun g hg=>I.apart g (hLM g hg) }
 have hnV: ∀id ∈ V,∀g n,ρ[id]? = some (g,n)→¬Mut F ρ (killAll V s.σ) g:=by
  intro id hid g n hg hmut
  obtain⟨b,hb,hbl,_⟩:=solidAt_get (List.all_eq_true.1 hV id hid)
  rcases hmut with hF|⟨j,c,n',g',h1,h2,h3,h4⟩
  ·exact I.apart g (.solid hb hbl hg) hF
  ·obtain⟨h5,h6⟩:=killAll_live _ _ h1 h2
   have e:=I.heap.inj' j id c b g' g n' n g h5 hb h2 hbl h3 hg h4 (b.owns_self g)
   exact h6 (e ▸ hid)
 obtain⟨hels',hl'⟩:=frzEls_sound (E:=E) (s:=s) I (m':=Mut F ρ (killAll V s.σ)) (fun b _ hb=>hM b hb) (by rw[hVd];exact hnV) hfz hels
 obtain⟨u,w',h1,v,σ',ρ',h2,h3,h4,h5,h6,_⟩:=evBuildSlice_core (E:=E) (σ:=killAll V s.σ) (k:=k) Ik hu hp hels' hs hz (hl'.trans hlen) hall hbig hlb hr hw (by rw[killAll_length];exact hk)
 exact⟨u,w',h1,v,σ',ρ',h2,h3,h4,(Keep.same fun b _ hb=>hM b hb).trans h5,h6,fun h=>h.elim⟩
theorem nilTest_sound{m:Nat→Prop}{sv:SV}{kb:Bool→Prop}{u:Value}(h:nilTest sv kb)(hd:DenS w m ρ sv u): ∃a l c,u= .slice a l c∧kb a.isNone:=by
 cases sv with
 |nil=>cases hd;exact⟨none,0,0,rfl,h⟩
 |data r=>
  obtain⟨a,cap,rfl,_,_,h4⟩:=hd
  refine⟨a,_,_,rfl,?_⟩
  simp only[nilTest] at h
  by_cases h0:r.count=0
  ·rw[decide_eq_true h0] at h
   cases a with
   |none=>exact h.1
   |some ad=>exact h.2
  ·rw[decide_eq_false h0] at h
   rcases h4 with h4|⟨ad,rfl,_⟩
   ·exact absurd h4 h0
   ·exact h
 |own id wd=>
  obtain⟨g,n,cap,t,sz,_,rfl,_⟩:=hd
  exact⟨_,_,_,rfl,h⟩
 |_=>exact h.elim
def wideR(r:Option Nat):Fence:={ Fence.wide with round:=r }
theorem callsIn_wideR{r:Option Nat}{n:Nat}{P:Program}{f:FuncId}{args:Array Value}{w:World}{R:Ending→World→Prop}(h:Calls P f args w R):CallsIn (wideR r) n P f args w R:= (callsIn_wide (n:=n)).2 h
theorem roundIn_wideR{r:Option Nat}{n:Nat}{P:Program}{l:Nat}{f:FuncId}{tmps:Array Value}{assign body:Code}{w:World}{R:Ending→World→Prop}(h:RoundIn Fence.wide n P l f tmps assign body w R):RoundIn (wideR r) n P l f tmps assign body w R:=h
theorem asInts_den{w:World}{m:Nat→Prop}{ρ:List (Nat × Nat)}{k:IntKind}: ∀{l:List SV} {ns:List Int} {vs:List Value},asInts k l=some ns→All2 (DenS w m ρ) l vs→vs=ns.map (Value.int k)
 |[],ns,vs,h,ha=>by
  cases h
  cases vs with
  |nil=>rfl
  |cons a b=>exact ha.elim
 |s::l,ns,vs,h,ha=>by
  cases s with
  |int k' n=>
   unfold asInts at h
   split at h
   ·rename_i hk
    subst hk
    cases hl:asInts k' l with
    |none=>rw[hl] at h;cases h
    |some ys=>
     rw[hl] at h
     cases h
     cases vs with
     |nil=>exact ha.elim
     |cons v vs=>
      have h1:v= .int k' n:=ha.1
      rw[h1,asInts_den hl ha.2]
      rfl
   ·cases h
  |_=>cases h
theorem all2_ints{w:World}{m:Nat→Prop}{ρ:List (Nat × Nat)}{k:IntKind}: ∀(ns:List Int),All2 (DenS w m ρ) (ns.map (SV.int k)) (ns.map (Value.int k))
 |[]=>trivial
 |n::l=>⟨rfl,all2_ints l⟩
theorem run_methF{P:Program}{t:TypeId}{name:String}{g:FuncId}(h:methF P t name=some g)(v:Value)(w:World):(method (P.types.size+Made.depth) t v name).run P w= .ok (g,v) w:=by
 unfold methF at h
 split at h
 case h_2=>cases h
 rename_i i fs hi hu
 split at h
 case h_2=>cases h
 rename_i m hm
 split at h
 case h_2=>cases h
 rename_i f hp hf
 cases h
 have hp':m.path = #[]:=Array.toList_inj.1 hp
 have hm':i.methods.find? (·.name==name)=some m:=by rw[← hm];simp
 have e:P.types.size+Made.depth=(P.types.size+(Made.depth-1))+1:=rfl
 rw[e]
 simp only[method,Sem.run_bind,run_typeInfo w hi,Result.andThen_ok,hm',hp',follow,Sem.run_pure,hf,receiverAt,run_underlying hu,Place.get]
theorem evN_sound(hS: ∀f S,E.specs f=some S→SpecOK E.P f S)(I:Inv F w0 m0 ρ0 ρ s.σ w){o:Oper}{a:Act}{k:AV→List Blk→Prop}(h:evN E o s k)
  (hops: ∀x ∈ o.op.operands,Den w (Mut F ρ s.σ) ρ (s.ov x) (a.eval x)) {next:Act→World→Prop} {Q:Exit→Act→World→Prop}
  (hnext: ∀u w',Done F w0 m0 ρ0 ρ s.σ w (calm E s o=true) k u w'→next (a.put o.dst u) w') {r:Option Nat}:o.wpIn (wideR r) 0 E.P a w next Q:=by
 have weak: ∀{c:Prop} {u w'},(calm E s o=true→c)→Done F w0 m0 ρ0 ρ s.σ w c k u w'→Done F w0 m0 ρ0 ρ s.σ w (calm E s o=true) k u w':=by
  rintro c u w' hc ⟨v,σ',ρ',h1,h2,h3,h4,h5,h6⟩
  exact⟨v,σ',ρ',h1,h2,h3,h4,h5,fun h=>h6 (hc h)⟩
 have val: ∀{S:Sem Value},(∃u w',S.run E.P w= .ok u w'∧Done F w0 m0 ρ0 ρ s.σ w True k u w')→
   o.uponIn (wideR r) 0 E.P a next Q ((do pure (.value (← S)):Sem Next).run E.P w):=by
  rintro S ⟨u,w',h1,h2⟩
  simp only[Sem.run_bind,h1,Result.andThen_ok,Sem.run_pure]
  exact hnext u w' (weak (fun _=>trivial) h2)
 refine⟨fun _ _=>trivial,?_⟩
 rw[Oper.semAt_eq _ _ _ (fun c hc=>by simp[evN,hc] at h)]
 unfold execOp
 unfold evN at h
 split at h
 ·
  rename_i op xt x ty ho
  simp only[ho]
  split at h
  case h_2=>exact h.elim
  rename_i e sv hu hx
  have hxd:=hops x (by simp[ho,Op.operands])
  rw[hx] at hxd
  have same: ∀(b:Bool),k (.one (.bool b)) s.σ→Done F w0 m0 ρ0 ρ s.σ w True k (.bool b) w:=fun b hb=>
   ⟨_,_,ρ,hb,I,⟨[],by simp⟩,Keep.refl _ _,rfl,fun _=>⟨⟨[],by simp⟩,fun _ _=>rfl⟩⟩
  split at h
  ·obtain⟨al,l,c,hv,hb⟩:=nilTest_sound h hxd
   refine val ⟨.bool al.isNone,w,?_,same _ hb⟩
   have hc:a.eval (.const (.slice none 0 0))= .slice none 0 0:=rfl
   rw[hv,hc]
   have hg:eqGuard .eql xt x (.const (.slice none 0 0)) (.slice al l c) (.slice none 0 0)=pure ():=by simp[eqGuard]
   simp[hg,binOp,run_equal_slice_nil w xt e al l c hu]
  ·obtain⟨al,l,c,hv,hb⟩:=nilTest_sound h hxd
   refine val ⟨.bool (!al.isNone),w,?_,same _ hb⟩
   have hc:a.eval (.const (.slice none 0 0))= .slice none 0 0:=rfl
   rw[hv,hc]
   have hg:eqGuard .neq xt x (.const (.slice none 0 0)) (.slice al l c) (.slice none 0 0)=pure ():=by simp[eqGuard]
   simp[hg,binOp,run_equal_slice_nil w xt e al l c hu]
  ·exact h.elim
 ·
  rename_i op xt x ty ho
  simp only[ho]
  split at h
  case h_2=>exact h.elim
  rename_i ms b hu hx
  have hxd:=hops x (by simp[ho,Op.operands])
  rw[hx] at hxd
  have same: ∀(b:Bool),k (.one (.bool b)) s.σ→Done F w0 m0 ρ0 ρ s.σ w True k (.bool b) w:=fun b hb=>
   ⟨_,_,ρ,hb,I,⟨[],by simp⟩,Keep.refl _ _,rfl,fun _=>⟨⟨[],by simp⟩,fun _ _=>rfl⟩⟩
  have hma:E.P.underlying xt=some (.interface (E.P.methodsAt xt)):=by unfold Program.methodsAt;rw[hu]
  have hc:a.eval (.const .nilIface)= .nilIface:=rfl
  split at h
  ·rcases hxd with⟨rfl,hv⟩|⟨rfl,ti,vi,hv⟩
   ·refine val ⟨.bool true,w,?_,same _ h⟩
    have hg:eqGuard .eql xt x (.const .nilIface) .nilIface .nilIface=pure ():=by cases x<;>simp[eqGuard]
    rw[hv,hc]
    simp[hg,run_eql_nil_nil w xt hma]
   ·refine val ⟨.bool false,w,?_,same _ h⟩
    have hg:eqGuard .eql xt x (.const .nilIface) (.iface ti vi) .nilIface=pure ():=by simp[eqGuard]
    rw[hv,hc]
    simp[hg,run_eql_held_nil w xt ti vi hma]
  ·rcases hxd with⟨rfl,hv⟩|⟨rfl,ti,vi,hv⟩
   ·refine val ⟨.bool false,w,?_,same _ h⟩
    have hg:eqGuard .neq xt x (.const .nilIface) .nilIface .nilIface=pure ():=by cases x<;>simp[eqGuard]
    rw[hv,hc]
    simp[hg,run_neq_nil_nil w xt hma]
   ·refine val ⟨.bool true,w,?_,same _ h⟩
    have hg:eqGuard .neq xt x (.const .nilIface) (.iface ti vi) .nilIface=pure ():=by simp[eqGuard]
    rw[hv,hc]
    simp[hg,run_neq_held_nil w xt ti vi hma]
  ·exact h.elim
 ·
  rename_i t ho
  simp only[ho]
  split at h
  case h_2=>exact h.elim
  rename_i z hz
  exact val (evAlloc_sound I hz h)
 ·rename_i t x ho
  simp only[ho]
  split at h
  case h_2=>exact h.elim
  rename_i z hz
  exact val (evBox_sound (E:=E) I hz (hops x (by simp[ho,Op.operands])) h)
 ·rename_i t len parts ho
  simp only[ho]
  split at h
  case h_2=>exact h.elim
  rename_i e hu
  split at h
  case h_2=>exact h.elim
  rename_i els sz z hm hs hz
  split at h
  case isFalse=>exact h.elim
  rename_i hc
  obtain⟨hc1,hc2,hc3,hc4,hc5⟩:=hc
  have hops': ∀p ∈ parts.toList,Den w (Mut F ρ s.σ) ρ (s.ov p.2) (a.eval p.2):=fun p hp=>hops p.2 (by simp[ho,Op.operands];exact⟨p.1,by simpa using hp⟩)
  split at h
  ·rename_i b hr
   split at h
   case isFalse=>exact h.elim
   rename_i hw
   exact val (evBuildSlice_sound (E:=E) I hu hm hs hz hc1 hc2 hc4 hc5 hr hw h hops')
  ·rename_i hr0
   split at h
   case h_2=>exact h.elim
   rename_i ts hts
   split at h
   case h_2=>exact h.elim
   rename_i c els' hfz
   split at h
   case h_2=>exact h.elim
   rename_i b hr
   split at h
   case isFalse=>exact h.elim
   rename_i hw
   obtain⟨hw,hw2⟩:=hw
   simp only[Bool.and_eq_true] at hw2
   obtain⟨rfl,h⟩:=cond_pos h
   obtain⟨hp,hels⟩:=mapParts_sound hm hops'
   obtain⟨u,w',h1,h2⟩:=evFreeze_sound (E:=E) I hu hp hels hfz hs hz hc1 hw2.1 hc4 hc5 hr hw hw2.2 h
   simp only[Sem.run_bind,h1,Result.andThen_ok,Sem.run_pure]
   exact hnext u w' (weak (fun hcalm=>by
    unfold calm at hcalm
    rw[ho] at hcalm
    dsimp only at hcalm
    rw[hu] at hcalm
    dsimp only at hcalm
    rw[hm] at hcalm
    dsimp only at hcalm
    rw[hr0] at hcalm
    cases hcalm) h2)
 ·rename_i t p x ho
  simp only[ho]
  split at h
  case h_2=>exact h.elim
  rename_i pv l sz hp hl hs
  split at h
  case isFalse=>exact h.elim
  rename_i hlen
  split at h
  case h_2=>exact h.elim
  rename_i c σ' hst
  obtain⟨rfl,h⟩:=cond_pos h
  have hpd:=hops p (by simp[ho,Op.operands])
  rw[hp] at hpd
  obtain⟨w',h1,h2⟩:=evStore_sound (E:=E) I hpd (hops x (by simp[ho,Op.operands])) hl hs hlen hst h
  simp only[Sem.run_bind,h1,Result.andThen_ok,Sem.run_pure]
  exact hnext undef w' (weak (fun hcalm=>by simp[calm,ho] at hcalm) h2)
 ·rename_i t n c ho
  simp only[ho]
  split at h
  case h_2=>exact h.elim
  rename_i e k1 av k2 bv hu hn hc
  have hnd:=hops n (by simp[ho,Op.operands])
  have hcd:=hops c (by simp[ho,Op.operands])
  rw[hn] at hnd
  rw[hc] at hcd
  have e1:a.eval n= .int k1 av:=hnd
  have e2:a.eval c= .int k2 bv:=hcd
  split at h
  case h_2=>exact h.elim
  rename_i by_ z sz hb hz hs
  obtain⟨hcnd,hgo⟩:=cond_pos h
  clear h
  simp only[Bool.and_eq_true,decide_eq_true_eq] at hcnd
  obtain⟨g0,gab,gbb⟩:=hcnd
  rw[e1,e2]
  split at hgo
  ·rename_i k' hk'
   split at hgo
   case isFalse=>exact hgo.elim
   rename_i hzz
   simp only[Bool.and_eq_true,beq_iff_eq] at hzz
   obtain⟨z1,z2,z3⟩:=hzz
   subst z3
   refine val (evMake_sound (E:=E) (ka:=k1) (kb:=k2) I hu hb hz hs g0 gab gbb z1 z2 (by omega) (r:= .ints k' (List.replicate av.toNat 0)) ⟨by simp[Row.count],rfl⟩ (by
    intro w m get hg i x hx
    have hi:=(List.getElem?_eq_some_iff.1 hx).1
    simp only[List.length_replicate] at hi
    simp only[List.getElem?_replicate,hi,if_true,Option.some.injEq] at hx
    subst hx
    exact hg i (by omega)) hgo)
  ·rename_i k' wd hk'
   split at hgo
   case isFalse=>exact hgo.elim
   rename_i hzz
   simp only[Bool.and_eq_true,beq_iff_eq,decide_eq_true_eq] at hzz
   obtain⟨z1,z2,z3,z4⟩:=hzz
   subst z3
   refine val (evMake_sound (E:=E) (ka:=k1) (kb:=k2) I hu hb hz hs g0 gab gbb z1 z2 z4 (r:= .mat k' sz (List.replicate av.toNat (List.replicate sz 0))) ⟨by simp[Row.count],rfl⟩ (by
    intro w m get hg i x hx c hc
    have hi:=(List.getElem?_eq_some_iff.1 hx).1
    simp only[List.length_replicate] at hi
    simp only[List.getElem?_replicate,hi,if_true,Option.some.injEq] at hx
    subst hx
    rw[hg (i*sz+c) (by
     have:(i+1)*sz≤av.toNat*sz:=Nat.mul_le_mul_right _ hi
     rw[Nat.add_mul] at this;omega)]
    simp[List.getD,hc]) hgo)
  ·split at hgo
   case h_2=>exact hgo.elim
   rename_i z0 _
   obtain⟨n,rfl,hk⟩:=splN_sound _ _ hgo
   exact val (evMakeC_sound (E:=E) (ka:=k1) (kb:=k2) I hu hb hz hs gab gbb hk)
 ·
  rename_i t ho
  simp only[ho]
  split at h
  case h_2=>exact h.elim
  rename_i kw vw hm
  exact val (evMakeMap_sound (t:=t) I h)
 ·rename_i t m ky x ho
  simp only[ho]
  split at h
  case h_2=>exact h.elim
  rename_i kw vw id hm hv
  have hmd:=hops m (by simp[ho,Op.operands])
  rw[hv] at hmd
  split at h
  case h_2=>exact h.elim
  rename_i kw' vw' l av bv hb ha hbv
  split at h
  case isFalse=>exact h.elim
  rename_i hc
  obtain⟨rfl,rfl⟩:=hc
  obtain⟨w',h1,h2⟩:=evMapUpdate_sound (E:=E) I hm hb hmd ha hbv (hops ky (by simp[ho,Op.operands])) (hops x (by simp[ho,Op.operands])) h
  simp only[Sem.run_bind,h1,Result.andThen_ok,Sem.run_pure]
  exact hnext undef w' (weak (fun hcalm=>by simp[calm,ho] at hcalm) h2)
 ·rename_i t m ky x ho
  simp only[ho]
  split at h
  case h_2=>exact h.elim
  rename_i kw vw id hm hv
  have hmd:=hops m (by simp[ho,Op.operands])
  rw[hv] at hmd
  split at h
  case h_2=>exact h.elim
  rename_i kw' vw' l av bv hb ha hbv
  split at h
  case isFalse=>exact h.elim
  rename_i hc
  obtain⟨rfl,rfl⟩:=hc
  obtain⟨w',h1,h2⟩:=evMapUpdate_sound (E:=E) I hm hb hmd ha hbv (hops ky (by simp[ho,Op.operands])) (hops x (by simp[ho,Op.operands])) h
  simp only[Sem.run_bind,h1,Result.andThen_ok,Sem.run_pure]
  exact hnext undef w' (weak (fun hcalm=>by simp[calm,ho] at hcalm) h2)
 ·rename_i t m ky ok ho
  simp only[ho]
  split at h
  case h_2=>exact h.elim
  rename_i kw vw id hm hv
  have hmd:=hops m (by simp[ho,Op.operands])
  rw[hv] at hmd
  split at h
  case h_2=>exact h.elim
  rename_i kw' vw' l av hb ha
  split at h
  case isFalse=>exact h.elim
  rename_i hc
  obtain⟨rfl,rfl⟩:=hc
  exact val (evLookup_sound (E:=E) I hm hb hmd ha (hops ky (by simp[ho,Op.operands])) h)
 ·rename_i t x ho
  simp only[ho]
  split at h
  case h_2=>exact h.elim
  rename_i kw vw id hm hv
  have hmd:=hops x (by simp[ho,Op.operands])
  rw[hv] at hmd
  split at h
  case h_2=>exact h.elim
  rename_i kw' vw' l hb
  split at h
  case isFalse=>exact h.elim
  rename_i hc
  obtain⟨rfl,rfl⟩:=hc
  obtain⟨u,w',h1,h2⟩:=evRangeMap_sound (E:=E) I hm hb hmd h
  simp only[Sem.run_bind,h1,Result.andThen_ok,Sem.run_pure]
  exact hnext u w' (weak (fun hcalm=>by simp[calm,ho] at hcalm) h2)
 ·rename_i it ho
  simp only[ho]
  split at h
  case h_2=>exact h.elim
  rename_i id hv
  have hmd:=hops it (by simp[ho,Op.operands])
  rw[hv] at hmd
  split at h
  case h_2=>exact h.elim
  rename_i m kw vw rem cur hb
  obtain⟨u,w',h1,h2⟩:=evNext_sound (E:=E) (ty:=o.type) I hb hmd h.1 h.2
  simp only[Sem.run_bind,h1,Result.andThen_ok,Sem.run_pure]
  exact hnext u w' (weak (fun hcalm=>by simp[calm,ho] at hcalm) h2)
 ·rename_i it ho
  simp only[ho]
  split at h
  case h_2=>exact h.elim
  rename_i id hv
  have hmd:=hops it (by simp[ho,Op.operands])
  rw[hv] at hmd
  split at h
  case h_2=>exact h.elim
  rename_i m kw vw rem x hb
  exact val (evEntry_sound (E:=E) I hb hmd h)
 ·rename_i src dst x ho
  simp only[ho]
  split at h
  case h_3=>exact h.elim
  case h_2=>
   rename_i e sv hsrc hdst hx
   split at h
   case h_2=>exact h.elim
   rename_i c xs he hv
   obtain⟨rfl,hk⟩:=cond_pos h
   have hxd:=hops x (by simp[ho,Op.operands])
   rw[hx] at hxd
   obtain⟨al,cap,h1,h2,h3,h4⟩:=viewRow_sound I.heap hv hxd
   have hb: ∀(ns:List Int) (r:ByteArray),ns.foldl (fun r n=>r.push (UInt8.ofNat n.toNat)) r=⟨(r.data.toList++ns.map fun n=>UInt8.ofNat n.toNat).toArray⟩:=by
    intro ns
    induction ns with
    |nil=>intro r;simp
    |cons n ns ih=>intro r;rw[List.foldl_cons,ih];simp[ByteArray.push]
   have hrun:(convert src dst (a.eval x)).run E.P w= .ok (.string ⟨(xs.map fun n=>UInt8.ofNat n.toNat).toArray⟩) w:=by
    rw[h1,run_convert_bytes_string w src dst e _ _ _ hsrc he hdst]
    rcases h4 with h4|⟨ad,rfl,hr,_,_⟩
    ·have:xs=[]:=List.eq_nil_of_length_eq_zero h4
     subst this
     cases al with
     |none=>simp[Conv.bytesToString,Sem.run_pure,Row.count];rfl
     |some ad=>rw[run_bytesToString w ad _ cap [] (by simp[Row.count,loadCells,loadCellsFrom,Sem.run_pure])];rfl
    ·rw[run_bytesToString w ad _ cap xs (by
      have:=run_loadCells_list (P:=E.P) w ad (xs.map (Value.int .u8)) (fun j v hj=>by
       simp only[List.getElem?_map] at hj
       cases hxj:xs[j]? with
       |none=>rw[hxj] at hj;simp at hj
       |some y=>rw[hxj] at hj;simp at hj;subst hj;exact hr j y hxj)
      simpa [Row.count] using this),hb]
     rfl
   refine val ⟨_,w,hrun,_,_,ρ,hk,I,⟨[],by simp⟩,Keep.refl _ _,rfl,fun _=>⟨⟨[],by simp⟩,fun _ _=>rfl⟩⟩
  rename_i e l hsrc hdst hx
  split at h
  case h_2=>exact h.elim
  rename_i he
  obtain⟨hc,hk⟩:=cond_pos h
  simp only[decide_eq_true_eq] at hc
  have hxd:=hops x (by simp[ho,Op.operands])
  rw[hx] at hxd
  have e1:a.eval x= .string ⟨l.toArray⟩:=hxd
  rw[e1]
  have hsz:(⟨l.toArray⟩:ByteArray).size=l.length:=by simp[ByteArray.size]
  have hrun:=run_bytes_of_string (P:=E.P) w src dst e ⟨l.toArray⟩ hsrc hdst he
  rw[hsz] at hrun
  have hge:=grownCap_ge w l.length 0 e
  have hcm:grownCap w l.length 0 e≤maxLen:=grownCap_le_maxLen w l.length 0 e (by unfold maxLen;omega)
  generalize hC:Obj.cells (bytesRow ⟨l.toArray⟩ (grownCap w l.length 0 e)) e ((bytesRow ⟨l.toArray⟩ (grownCap w l.length 0 e)).size,(bytesRow ⟨l.toArray⟩ (grownCap w l.length 0 e)).size+1)=C at hrun
  obtain⟨K,I'⟩:=I.other (w':=w.drew.alloc C) rfl rfl rfl rfl
  refine val ⟨_,_,hrun,_,_,ρ,hk,I',⟨[],by simp⟩,K,?_,fun _=>⟨⟨[],by simp⟩,Prefix_push rfl⟩⟩
  refine⟨some ⟨w.heap.size,0,none⟩,grownCap w l.length 0 e,by simp[Row.count],by simpa [Row.count] using hge,hcm,.inr ⟨⟨w.heap.size,0,none⟩,rfl,?_,?_,?_⟩⟩
  ·show w.heap.size<(w.heap.push C).size
   simp
  ·intro hm
   rcases hm with hm|⟨id,b,n,g,h1,h2,h3,h4⟩
   ·have:=I.foreign _ hm
    simp at this
   ·have:=I.heap.lt id b g n _ h1 h3 h2 h4
    simp at this
  ·intro i y hy
   simp only[List.getElem?_map] at hy
   cases hb:l[i]? with
   |none=>rw[hb] at hy;simp at hy
   |some b=>
    rw[hb] at hy
    simp at hy
    subst hy
    have hg:(w.drew.alloc C).heap[w.heap.size]? = some C:=heap_alloc_new w.drew C
    have hi:=(List.getElem?_eq_some_iff.1 hb).1
    subst hC
    have hadd:(⟨w.heap.size,0,none⟩:Addr).add i=⟨w.heap.size,i,none⟩:=by unfold Addr.add;split<;>simp_all
    dsimp only
    rw[hadd]
    unfold World.cell?
    dsimp only
    rw[hg]
    simp only[Option.isSome_none,Bool.false_eq_true,if_false,bytesRow]
    rw[Array.getElem?_append_left (by simpa using hi)]
    simp[hb]
 ·rename_i f args ts ho
  simp only[ho]
  split at h
  case h_3=>exact h.elim
  case h_2=>
   rename_i id hf
   have hfd:=hops f (by simp[ho,Op.operands,Call.operands])
   have hall:All2 (Den w (Mut F ρ s.σ) ρ) (args.toList.map s.ov) (args.toList.map a.eval):=All2_map fun x hx=>hops x (by simp[ho,Op.operands,Call.operands];right;simpa using hx)
   rw[hf] at hfd
   obtain⟨g,x,hg1,hg2⟩:=hfd
   obtain⟨fn,tmps,assign,body,hrun,hround⟩:=evYield_sound I h hall hg1
   have hres:(resolve a.eval { callee:= .value f,args:=args,argTypes:=ts } o.type).run E.P w= .ok { target:= .fn (.yield g) #[],args:=args.map a.eval } w:=by
    simp[resolve,hg2,Deferred.ofValue]
   have e3:args.map a.eval=(args.toList.map a.eval).toArray:=by
    apply Array.toList_inj.1
    simp
   simp only[Sem.run_bind,hres,Result.andThen_ok,invoke,e3,hrun]
   rw[Oper.uponIn_round]
   refine⟨fun h=>by simp[wideR,Fence.wide] at h,roundIn_wideR ((hround _).mono ?_)⟩
   rintro e w' ⟨v,rfl,h2⟩
   exact hnext v w' (weak (fun hcalm=>by
    unfold calm at hcalm
    rw[ho] at hcalm
    dsimp only at hcalm
    rw[hf] at hcalm
    cases hcalm) h2)
  rename_i g cap hf
  have hfd:=hops f (by simp[ho,Op.operands,Call.operands])
  have hall:All2 (Den w (Mut F ρ s.σ) ρ) (args.toList.map s.ov) (args.toList.map a.eval):=All2_map fun x hx=>hops x (by simp[ho,Op.operands,Call.operands];right;simpa using hx)
  rw[hf] at hfd
  obtain⟨gs,hg1,hg2⟩:=hfd
  have hcap:All2 (Den w (Mut F ρ s.σ) ρ) (capAV cap) (gs.map fun g=>Value.pointer (some ⟨g.1,0,none⟩)):=by
   clear h hg2 hf
   induction cap generalizing gs with
   |nil=>cases gs with
    |nil=>trivial
    |cons a l=>simp at hg1
   |cons c cap ih=>
    cases gs with
    |nil=>simp at hg1
    |cons g gs=>
     simp only[List.map_cons,List.cons.injEq] at hg1
     exact⟨⟨g.1,g.2,hg1.1,by simp⟩,ih gs hg1.2⟩
  have hcall:=evCall_sound hS I h hall hcap
  have hres:(resolve a.eval { callee:= .value f,args:=args,argTypes:=ts } o.type).run E.P w= .ok { target:= .fn (.func g) (gs.map fun g=>Value.pointer (some ⟨g.1,0,none⟩)).toArray,args:=args.map a.eval } w:=by
   simp[resolve,hg2,Deferred.ofValue]
  obtain⟨S,hSg⟩: ∃S,E.specs g=some S:=by
   unfold evCall at h
   split at h
   ·rename_i S _ _ hs _;exact⟨S,hs⟩
   ·exact h.elim
  obtain⟨fn,c,hfn,hbody,hname⟩:=(hS g S hSg).body
  simp only[Sem.run_bind,hres,Result.andThen_ok,invoke,callFunc,run_program,hfn,hname,hbody]
  simp only[Option.isNone_some,Bool.false_eq_true,if_false,Sem.run_pure]
  rw[Oper.uponIn_enter]
  have e3:args.map a.eval++(gs.map fun g=>Value.pointer (some ⟨g.1,0,none⟩)).toArray=(args.toList.map a.eval++gs.map fun g=>Value.pointer (some ⟨g.1,0,none⟩)).toArray:=by
   apply Array.toList_inj.1
   simp
  rw[e3]
  refine⟨fun h=>by simp[wideR,Fence.wide] at h,callsIn_wideR (hcall.mono ?_)⟩
  rintro e w' ⟨v,rfl,h2⟩
  refine hnext v w' (weak (fun hcalm=> ?_) h2)
  unfold calm at hcalm
  rw[ho] at hcalm
  dsimp only at hcalm
  rw[hf] at hcalm
  dsimp only at hcalm
  split at hcalm
  ·rename_i c2 args' hv
   simp only[Bool.and_eq_true,Bool.or_eq_true] at hcalm
   exact⟨c2,args',hv,hcalm.1,hcalm.2⟩
  ·cases hcalm
 ·
  rename_i t x ho
  simp only[ho]
  split at h
  case h_2=>exact h.elim
  rename_i fs l hu hx
  split at h
  case h_2=>exact h.elim
  rename_i ns hns
  have hxd:=hops x (by simp[ho,Op.operands])
  rw[hx] at hxd
  obtain⟨vs,hv,hall⟩:=hxd
  have hvs:=asInts_den hns hall
  subst hvs
  refine val ⟨.iface t (a.eval x),w,run_makeInterface w t _ (by unfold Program.concrete;rw[hu]),?_⟩
  rw[hv]
  exact⟨_,_,ρ,h,I,⟨[],by simp⟩,Keep.refl _ _,rfl,fun _=>⟨⟨[],by simp⟩,fun _ _=>rfl⟩⟩
 ·
  rename_i r name args ts ho
  simp only[ho]
  split at h
  case h_2=>exact h.elim
  rename_i t ns hr
  split at h
  case h_2=>exact h.elim
  rename_i g hg
  have hrd:=hops r (by simp[ho,Op.operands,Call.operands])
  rw[hr] at hrd
  have hrd:a.eval r= .iface t (.agg (ns.map (Value.int .i64)).toArray):=hrd
  have hall:All2 (Den w (Mut F ρ s.σ) ρ) (args.toList.map s.ov) (args.toList.map a.eval):=All2_map fun x hx=>hops x (by simp[ho,Op.operands,Call.operands];right;simpa using hx)
  have hall2:All2 (Den w (Mut F ρ s.σ) ρ) (.agg (ns.map (SV.int .i64))::args.toList.map s.ov) (.agg (ns.map (Value.int .i64)).toArray::args.toList.map a.eval):=⟨⟨_,rfl,all2_ints ns⟩,hall⟩
  have hcall:=evCall_sound hS I h hall2 (cap:=[]) (vcap:=[]) trivial
  obtain⟨S,hSg⟩: ∃S,E.specs g=some S:=by
   unfold evCall at h
   split at h
   ·rename_i S _ _ hs _;exact⟨S,hs⟩
   ·exact h.elim
  obtain⟨fn,c,hfn,hbody,hname⟩:=(hS g S hSg).body
  have hres:(resolve a.eval { callee:= .invoke r name,args:=args,argTypes:=ts } o.type).run E.P w= .ok { target:= .fn (.method name) #[],args := #[a.eval r]++args.map a.eval } w:=by
   simp[resolve]
  have hm:=run_methF hg (.agg (ns.map (Value.int .i64)).toArray) w
  have hex:(#[Value.iface t (.agg (ns.map (Value.int .i64)).toArray)]++args.map a.eval).extract 1 (#[Value.iface t (.agg (ns.map (Value.int .i64)).toArray)]++args.map a.eval).size=args.map a.eval:=by
   apply Array.toList_inj.1
   simp
   rw[List.take_of_length_le (by simp)]
  have h0:(#[Value.iface t (.agg (ns.map (Value.int .i64)).toArray)]++args.map a.eval)[0]? = some (Value.iface t (.agg (ns.map (Value.int .i64)).toArray)):=by rw[Array.getElem?_append_left (by simp)];rfl
  simp only[Sem.run_bind,hres,Result.andThen_ok,invoke,hrd,h0,hex,callMethod,Sem.run_bind,run_program,hm,callFunc,hfn,hname,hbody]
  simp only[Option.isNone_some,Bool.false_eq_true,if_false,Sem.run_pure]
  rw[Oper.uponIn_enter]
  have e3 : #[Value.agg (ns.map (Value.int .i64)).toArray]++args.map a.eval=(Value.agg (ns.map (Value.int .i64)).toArray::args.toList.map a.eval++[]).toArray:=by
   apply Array.toList_inj.1
   simp
  rw[e3]
  refine⟨fun h=>by simp[wideR,Fence.wide] at h,callsIn_wideR (hcall.mono ?_)⟩
  rintro e w' ⟨v,rfl,h2⟩
  refine hnext v w' (weak (fun hcalm=> ?_) h2)
  unfold calm at hcalm
  rw[ho] at hcalm
  dsimp only at hcalm
  cases hcalm
 ·rename_i args ts ho
  simp only[ho]
  split at h
  case h_2=>exact h.elim
  rename_i x y t u hxy htu
  have hargs:All2 (Den w (Mut F ρ s.σ) ρ) (args.toList.map s.ov) (args.toList.map a.eval):=All2_map fun x hx=>hops x (by simp[ho,Op.operands,Call.operands];simpa using hx)
  rw[hxy] at hargs
  match hvs:args.toList.map a.eval,hargs with
  |[vx,vy],hargs=>
   obtain⟨v,w',h1,h2⟩:=evCopy_sound (E:=E) (u:=u) (ty:=o.type) I h hargs.1 hargs.2.1
   have e2:ts = #[t,u]:=Array.toList_inj.1 (by simpa using htu)
   subst e2
   have e3:args.map a.eval = #[vx,vy]:=Array.toList_inj.1 (by simpa using hvs)
   simp only[resolve,Sem.run_bind,Sem.run_pure,Result.andThen_ok,invoke,builtin,e3,h1]
   exact hnext v w' (weak (fun hcalm=>by simp[calm,ho] at hcalm) h2)
 ·rename_i args ts ho
  simp only[ho]
  have hargs:All2 (Den w (Mut F ρ s.σ) ρ) (args.toList.map s.ov) (args.toList.map a.eval):=All2_map fun x hx=>hops x (by simp[ho,Op.operands,Call.operands];simpa using hx)
  split at h
  case h_3=>exact h.elim
  case h_1=>
   rename_i x kq n t u hxy htu
   split at h
   case h_2=>exact h.elim
   rename_i ku hu
   rw[hxy] at hargs
   match hvs:args.toList.map a.eval,hargs with
   |[vx,vy],hargs=>
    have hvy:vy= .int kq n:=hargs.2.1
    subst hvy
    obtain⟨v,w',h1,h2⟩:=evAppendZ_sound (E:=E) (ty:=o.type) (kq:=kq) I h hu hargs.1
    have e2:ts = #[t,u]:=Array.toList_inj.1 (by simpa using htu)
    subst e2
    have e3:args.map a.eval = #[vx,.int kq n]:=Array.toList_inj.1 (by simpa using hvs)
    simp only[resolve,Sem.run_bind,Sem.run_pure,Result.andThen_ok,invoke,builtin,e3,h1]
    exact hnext v w' (weak (fun hcalm=>by simp[calm,ho] at hcalm) h2)
  rename_i x y t u _ hxy htu
  split at h
  ·rename_i l' hl'
   split at h
   case isFalse=>exact h.elim
   rename_i htu'
   subst htu'
   rw[hxy] at hargs
   match hvs:args.toList.map a.eval,hargs with
   |[vx,vy],hargs=>
    obtain⟨v,w',h1,h2⟩:=evAppendC_sound (E:=E) (ty:=o.type) I h hl' hargs.1 hargs.2.1
    have e2:ts = #[t,t]:=Array.toList_inj.1 (by simpa using htu)
    subst e2
    have e3:args.map a.eval = #[vx,vy]:=Array.toList_inj.1 (by simpa using hvs)
    simp only[resolve,Sem.run_bind,Sem.run_pure,Result.andThen_ok,invoke,builtin,e3,h1]
    exact hnext v w' (weak (fun hcalm=>by simp[calm,ho] at hcalm) h2)
  have happ:evAppend E.P s.σ t x y k∧ ∃e,E.P.underlying t=some (.slice e)∧E.P.underlying u=some (.slice e):=by
   split at h
   ·rename_i htu'
    subst htu'
    refine⟨h,?_⟩
    unfold evAppend at h
    split at h
    ·rename_i e he;exact⟨e,he,he⟩
    ·exact h.elim
   ·split at h
    ·rename_i e e' h1 h2
     split at h
     ·rename_i he;subst he;exact⟨h,_,h1,h2⟩
     ·exact h.elim
    ·exact h.elim
  obtain⟨hk,e,ht,hu⟩:=happ
  rw[hxy] at hargs
  match hvs:args.toList.map a.eval,hargs with
  |[vx,vy],hargs=>
   obtain⟨v,w',h1,h2⟩:=evAppend_sound (E:=E) (ty:=o.type) I hk ht hu hargs.1 hargs.2.1
   have e2:ts = #[t,u]:=Array.toList_inj.1 (by simpa using htu)
   subst e2
   have e3:args.map a.eval = #[vx,vy]:=Array.toList_inj.1 (by simpa using hvs)
   simp only[resolve,Sem.run_bind,Sem.run_pure,Result.andThen_ok,invoke,builtin,e3,h1]
   exact hnext v w' (weak (fun hcalm=>by simp[calm,ho] at hcalm) h2)
 ·exact h.elim
end
end Go.Ev
