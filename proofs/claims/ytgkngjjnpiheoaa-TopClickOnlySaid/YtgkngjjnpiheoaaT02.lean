/-
  Part of the proof that TopClickOnly holds.
-/
import Derived.Test.YtgkngjjnpiheoaaT01
import Derived.Laws.Pointers
import Derived.ChangeKeysEq
import Derived.Laws.StructEq
import Derived.Laws.Strings
set_option linter.unusedVariables false
set_option linter.unusedSimpArgs false
set_option linter.unusedSectionVars false
namespace Go.Ev
open Go Go.RowKit
variable [Glob]
section
variable {F:Nat→Prop} {P:Program} {w:World} {m:Nat→Prop} {ρ:List (Nat × Nat)}
theorem run_isAgg{t:TypeId}{b:Bool}(h:aggT P t=some b):(isAgg t).run P w= .ok b w:=by
 unfold aggT at h
 cases hu:P.underlying t with
 |none=>rw[hu] at h;simp at h
 |some d=>
  rw[hu] at h
  simp only[Option.map_some,Option.some.injEq] at h
  simp only[isAgg,Sem.run_bind,run_underlying hu,Result.andThen_ok]
  subst h
  cases d<;>rfl
theorem run_sizeOf'{t:TypeId}{n:Nat}(h:sizeT P t=some n):(sizeOf t).run P w= .ok n w:=by
 unfold sizeT at h
 cases hi:P.info? t with
 |none=>rw[hi] at h;simp at h
 |some i=>
  rw[hi] at h
  simp only[Option.map_some,Option.some.injEq] at h
  subst h
  simp[sizeOf,typeInfo,hi]
theorem svc_sound{v:Value}{s:SV}(h:svc v=some s):DenS w m ρ s v:=by
 cases v with
 |agg cs=>simp[svc] at h
 |tuple cs=>simp[svc] at h
 |string b=>
  simp only[svc,Option.some.injEq] at h
  subst h
  rfl
 |slice a n c=>
  unfold svc at h
  split at h<;>simp_all<;>subst h<;>first|rfl|trivial
 |pointer a=>
  cases a with
  |none=>cases h;rfl
  |some a=>cases h;rfl
 |_=>
  simp only[svc,Option.some.injEq] at h
  subst h
  first|rfl|trivial|exact .inl ⟨rfl,rfl⟩
theorem svcs_sound: ∀{l:List Value} {k:List SV},svcs l=some k→All2 (DenS w m ρ) k l
 |[],k,h=>by simp only[svcs,Option.some.injEq] at h;subst h;trivial
 |v::l,k,h=>by
  simp only[svcs] at h
  split at h
  ·rename_i s k' hs hk
   simp only[Option.some.injEq] at h
   subst h
   exact⟨svc_sound hs,svcs_sound hk⟩
  ·cases h
theorem avc_sound(v:Value):Den w m ρ (avc v) v:=by
 unfold avc
 split
 ·rename_i cs
  split
  ·rename_i l hl
   exact⟨cs.toList,by simp,svcs_sound hl⟩
  ·trivial
 ·trivial
 ·split
  ·rename_i s hs
   exact svc_sound hs
  ·trivial
theorem ov_sound{s:St}{a:Act}(H: ∀(t:Nat) (v:AV),s.t[t]? = some v→ ∃u,a.tmps[t]? = some u∧Den w m ρ v u)(x:Operand):Den w m ρ (s.ov x) (a.eval x):=by
 cases x with
 |tmp t=>
  simp only[St.ov,Act.eval]
  cases h:s.t[t]? with
  |none=>simp[List.getD,h,Den]
  |some v=>
   obtain⟨u,hu,hd⟩:=H t v h
   simp only[List.getD,h,Option.getD_some]
   simpa [Array.getD_eq_getD_getElem?,hu] using hd
 |const v=>exact avc_sound v
 |global g=>rfl
 |func f=>exact⟨[],rfl,rfl⟩
theorem Den_agg_cells{a:AV}{u:Value}{l:List SV}(hc:a.cells=some l)(h:Den w m ρ a u):All2 (DenS w m ρ) l u.cells.toList:=by
 cases a with
 |any=>simp[AV.cells] at hc
 |tup l=>simp[AV.cells] at hc
 |one s=>
  simp only[AV.cells,Option.some.injEq] at hc
  subst hc
  have h1:=DenS.one h
  cases u with
  |agg cs=>simp[Value.oneCell'] at h1
  |_=>exact⟨h,trivial⟩
 |agg k=>
  simp only[AV.cells,Option.some.injEq] at hc
  subst hc
  obtain⟨vs,rfl,hl⟩:=h
  simpa [Value.cells] using hl
theorem part_sound{t:TypeId}{l:List SV}{off:Nat}{v:AV}{vs:List Value}(h:partSV P t l off=some v)(hl:All2 (DenS w m ρ) l vs):
  ∃u,(part t vs.toArray off).run P w= .ok u w∧Den w m ρ v u:=by
 unfold partSV at h
 split at h
 ·rename_i sz ha hs
  split at h
  ·rename_i hle
   simp only[Option.some.injEq] at h
   subst h
   refine⟨.agg ((vs.drop off).take sz).toArray,?_,_,rfl,(hl.drop off).take sz⟩
   simp only[part,Sem.run_bind,run_isAgg ha,Result.andThen_ok,if_true,run_sizeOf' hs,Sem.run_pure]
   have e:vs.toArray.extract off (off+sz)=((vs.drop off).take sz).toArray:=by
    apply Array.toList_inj.1
    simp
   rw[e]
  ·cases h
 ·rename_i ha
  cases hg:l[off]? with
  |none=>rw[hg] at h;simp at h
  |some sv=>
   rw[hg] at h
   simp only[Option.map_some,Option.some.injEq] at h
   subst h
   obtain⟨u,hu,hd⟩:=hl.get hg
   refine⟨u,?_,hd⟩
   simp[part,run_isAgg ha,hu]
 ·cases h
theorem eqL_fields{d f:Nat}{xs ys:List Value}{a b:List SV}(ha:All2 (DenS w m ρ) a xs)(hb:All2 (DenS w m ρ) b ys)
  (IH: ∀t x y r vx vy,eqAV P f t x y=some r→Den w m ρ x vx→Den w m ρ y vy→(Op.equalIn d t vx vy).run P w= .ok r w):
  ∀(fs:List Field) (r:Bool),eqL (fun fd:Field=>if fd.name = "_" then none else match partSV P fd.type a fd.offset,partSV P fd.type b fd.offset with
    |some u,some v=>eqAV P f fd.type u v
    |_,_=>none) fs=some r→(Op.eqFields d xs.toArray ys.toArray fs).run P w= .ok r w:=by
 have one: ∀(fd:Field) (r:Bool),(if fd.name = "_" then none else match partSV P fd.type a fd.offset,partSV P fd.type b fd.offset with
    |some u,some v=>eqAV P f fd.type u v
    |_,_=>none)=some r→fd.name ≠ "_" ∧ ∃u v,(part fd.type xs.toArray fd.offset).run P w= .ok u w∧(part fd.type ys.toArray fd.offset).run P w= .ok v w∧(Op.equalIn d fd.type u v).run P w= .ok r w:=by
  intro fd r h
  split at h
  ·cases h
  ·rename_i hn
   split at h
   ·rename_i u v hu hv
    obtain⟨u',h1,h2⟩:=part_sound hu ha
    obtain⟨v',h3,h4⟩:=part_sound hv hb
    exact⟨hn,u',v',h1,h3,IH _ _ _ _ _ _ h h2 h4⟩
   ·cases h
 intro fs
 induction fs with
 |nil=>intro r h;simp only[eqL,Option.some.injEq] at h;subst h;simp[Op.eqFields]
 |cons fd fs ih=>
  intro r h
  cases fs with
  |nil=>
   simp only[eqL] at h
   obtain⟨hn,u,v,h1,h2,h3⟩:=one fd r h
   simp only[Op.eqFields,hn,ne_eq,not_false_eq_true,if_true,Sem.run_bind,h1,h2,h3,Result.andThen_ok]
   cases r<;>simp
  |cons fd' fs=>
   simp only[eqL] at h
   split at h
   ·rename_i x y hx hy
    simp only[Option.some.injEq] at h
    subst h
    obtain⟨hn,u,v,h1,h2,h3⟩:=one fd x hx
    have h4:=ih y hy
    rw[Op.eqFields]
    simp only[hn,ne_eq,not_false_eq_true,if_true,Sem.run_bind,h1,h2,h3,Result.andThen_ok]
    cases x
    ·simp
    ·simpa using h4
   ·cases h
theorem eqL_items{d f:Nat}{e:TypeId}{xs ys:List Value}{a b:List SV}(ha:All2 (DenS w m ρ) a xs)(hb:All2 (DenS w m ρ) b ys){sz:Nat}
  (IH: ∀t x y r vx vy,eqAV P f t x y=some r→Den w m ρ x vx→Den w m ρ y vy→(Op.equalIn d t vx vy).run P w= .ok r w):
  ∀(is:List Nat) (r:Bool),eqL (fun i:Nat=>match partSV P e a (i*sz),partSV P e b (i*sz) with
    |some u,some v=>eqAV P f e u v
    |_,_=>none) is=some r→(Op.eqItems d e sz xs.toArray ys.toArray is).run P w= .ok r w:=by
 have one: ∀(i:Nat) (r:Bool),(match partSV P e a (i*sz),partSV P e b (i*sz) with
    |some u,some v=>eqAV P f e u v
    |_,_=>none)=some r→ ∃u v,(part e xs.toArray (i*sz)).run P w= .ok u w∧(part e ys.toArray (i*sz)).run P w= .ok v w∧(Op.equalIn d e u v).run P w= .ok r w:=by
  intro i r h
  split at h
  ·rename_i u v hu hv
   obtain⟨u',h1,h2⟩:=part_sound hu ha
   obtain⟨v',h3,h4⟩:=part_sound hv hb
   exact⟨u',v',h1,h3,IH _ _ _ _ _ _ h h2 h4⟩
  ·cases h
 intro is
 induction is with
 |nil=>intro r h;simp only[eqL,Option.some.injEq] at h;subst h;simp[Op.eqItems]
 |cons i is ih=>
  intro r h
  cases is with
  |nil=>
   simp only[eqL] at h
   obtain⟨u,v,h1,h2,h3⟩:=one i r h
   simp only[Op.eqItems,Sem.run_bind,h1,h2,h3,Result.andThen_ok]
   cases r<;>simp
  |cons i' is=>
   simp only[eqL] at h
   split at h
   ·rename_i x y hx hy
    simp only[Option.some.injEq] at h
    subst h
    obtain⟨u,v,h1,h2,h3⟩:=one i x hx
    have h4:=ih y hy
    rw[Op.eqItems]
    simp only[Sem.run_bind,h1,h2,h3,Result.andThen_ok]
    cases x
    ·simp
    ·simpa using h4
   ·cases h
theorem beq_bytes(a b:List UInt8):((⟨a.toArray⟩:ByteArray)==⟨b.toArray⟩)=(a==b):=by
 show((⟨a⟩:Array UInt8)==⟨b⟩)=(a==b)
 simp
theorem eqAV_sound: ∀(f:Nat) (t:TypeId) (x y:AV) (r:Bool) (vx vy:Value),eqAV P f t x y=some r→Den w m ρ x vx→Den w m ρ y vy→
  ∀d,f≤d→(Op.equalIn d t vx vy).run P w= .ok r w:=by
 intro f
 induction f with
 |zero=>intro t x y r vx vy h;simp[eqAV] at h
 |succ f ih=>
  intro t x y r vx vy h hx hy d hd
  obtain⟨d,rfl⟩: ∃e,d=e+1:=⟨d-1,by omega⟩
  simp only[eqAV] at h
  split at h
  ·rename_i k1 k a k' b hu
   split at h
   ·rename_i hk
    subst hk
    cases hx;cases hy
    simp only[Option.some.injEq] at h
    subst h
    exact run_equalIn_int w d t k _ a b hu
   ·cases h
  ·rename_i a b hu
   cases hx;cases hy
   simp only[Option.some.injEq] at h
   subst h
   exact run_equalIn_bool w d t a b hu
  ·rename_i a b hu
   cases hx;cases hy
   simp only[Option.some.injEq] at h
   subst h
   simp[Op.equalIn,run_underlying hu,beq_bytes]
  ·rename_i fs a b hu
   split at h
   ·cases h
   ·rename_i hs
    obtain⟨xs,rfl,hxs⟩:=hx
    obtain⟨ys,rfl,hys⟩:=hy
    have hf:P.fieldsOf t=fs:=by simp[Program.fieldsOf,hu]
    rw[run_equalIn_struct w d t _ _ (by rw[hf];exact hu) (by simpa using hs),hf]
    exact eqL_fields hxs hys (fun t x y r vx vy h1 h2 h3=>ih t x y r vx vy h1 h2 h3 d (by omega)) _ _ h
  ·rename_i n e a b hu
   split at h
   ·rename_i sz hsz
    obtain⟨xs,rfl,hxs⟩:=hx
    obtain⟨ys,rfl,hys⟩:=hy
    unfold sizeT at hsz
    cases hi:P.info? e with
    |none=>rw[hi] at hsz;simp at hsz
    |some i=>
     rw[hi] at hsz
     simp only[Option.map_some,Option.some.injEq] at hsz
     rw[run_equalIn_array (w:=w) d _ _ hu hi]
     have:P.cellsOf e=sz:=by simp[Program.cellsOf,hi,hsz]
     rw[this]
     exact eqL_items hxs hys (fun t x y r vx vy h1 h2 h3=>ih t x y r vx vy h1 h2 h3 d (by omega)) _ _ h
   ·cases h
  ·cases h
theorem evBin_sound{op:BinOp}{xt:TypeId}{x y v:AV}{vx vy:Value}{ox oy:Operand}(h:evBin P op xt x y=some (true,v))(hx:Den w m ρ x vx)(hy:Den w m ρ y vy):
  ∃u,(do eqGuard op xt ox oy vx vy;binOp op xt vx vy:Sem Value).run P w= .ok u w∧Den w m ρ v u:=by
 unfold evBin at h
 split at h
 ·rename_i k a k' b
  cases hx;cases hy
  have hg:eqGuard op xt ox oy (.int k a) (.int k' b)=pure ():=eqGuard_at_int ..
  simp only[hg,Sem.run_bind,Sem.run_pure,Result.andThen_ok]
  split at h
  ·rename_i hs
   cases op<;>simp[isShift] at hs
   ·simp only[shiftBin,Option.map_some,Option.some.injEq,Prod.mk.injEq,Bool.not_eq_true',decide_eq_false_iff_not] at h
    obtain⟨h1,rfl⟩:=h
    exact⟨_,by simp[binOp,Op.shift,h1],rfl⟩
   ·simp only[shiftBin,Option.map_some,Option.some.injEq,Prod.mk.injEq,Bool.not_eq_true',decide_eq_false_iff_not] at h
    obtain⟨h1,rfl⟩:=h
    exact⟨_,by simp[binOp,Op.shift,h1],rfl⟩
  ·split at h
   ·rename_i hk
    subst hk
    cases op<;>simp only[intBin,Option.map_some,Option.map_none,Option.some.injEq,Prod.mk.injEq,true_and,Bool.not_eq_true',decide_eq_false_iff_not,reduceCtorEq] at h
    case quo=>obtain⟨h1,rfl⟩:=h;exact⟨_,by simp[binOp,Op.intDiv,h1],rfl⟩
    case rem=>obtain⟨h1,rfl⟩:=h;exact⟨_,by simp[binOp,Op.intDiv,h1],rfl⟩
    all_goals (subst h;exact⟨_,by first|(simp[binOp,Op.intArith];done)|(simp[binOp,Op.intCmp];done)|(rw[binOp_and];rfl),rfl⟩)
   ·cases h
 ·rename_i a b
  cases hx;cases hy
  have hg:eqGuard op xt ox oy (.string ⟨a.toArray⟩) (.string ⟨b.toArray⟩)=pure ():=eqGuard_at_string ..
  simp only[hg,Sem.run_bind,Sem.run_pure,Result.andThen_ok]
  split at h<;>simp at h
  ·obtain⟨h1,rfl⟩:=h
   refine⟨.string ⟨(a++b).toArray⟩,?_,rfl⟩
   have hsz:¬((((⟨a.toArray⟩:ByteArray).size+(⟨b.toArray⟩:ByteArray).size:Nat):Int)>IntKind.i64.max):=by
    rw[IntKind.max_i64]
    show¬(((a.toArray.size+b.toArray.size:Nat):Int)>_)
    simp only[List.size_toArray]
    omega
   have hap:(⟨a.toArray⟩:ByteArray)++⟨b.toArray⟩=⟨(a++b).toArray⟩:=by
    apply ByteArray.ext
    simp
   simp only[binOp,Op.stringOp]
   rw[if_neg hsz,hap]
   rfl
  ·subst h;exact⟨_,by simp[binOp,Op.stringOp],rfl⟩
  ·subst h;exact⟨_,by simp[binOp,Op.stringOp],rfl⟩
 ·rename_i a b
  cases hx;cases hy
  have hg:eqGuard op xt ox oy (.bool a) (.bool b)=pure ():=eqGuard_at_bool ..
  simp only[hg,Sem.run_bind,Sem.run_pure,Result.andThen_ok]
  split at h<;>simp at h<;>subst h
  ·rename_i hu
   exact⟨_,run_eql_bool w xt a b hu,rfl⟩
  ·rename_i hu
   exact⟨_,run_neq_bool w xt a b hu,rfl⟩
 ·rename_i id wd i c
  obtain⟨g,n,_,rfl⟩:=hx
  cases hy
  have hg: ∀p,eqGuard op xt ox oy (.pointer (some p)) (.pointer none)=pure ():=fun p=>eqGuard_at_pointer ..
  simp only[hg,Sem.run_bind,Sem.run_pure,Result.andThen_ok]
  split at h<;>simp at h<;>subst h
  ·rename_i e hu
   exact⟨_,run_eql_pointer_nil w xt _ (by rw[hu];simp[Program.pointee,hu]),rfl⟩
  ·rename_i e hu
   exact⟨_,run_neq_pointer_nil w xt _ (by rw[hu];simp[Program.pointee,hu]),rfl⟩
 ·cases hx;cases hy
  have hg:eqGuard op xt ox oy (.pointer none) (.pointer none)=pure ():=eqGuard_at_pointer ..
  simp only[hg,Sem.run_bind,Sem.run_pure,Result.andThen_ok]
  split at h<;>simp at h<;>subst h
  ·rename_i e hu
   exact⟨_,run_eql_pointer_nil w xt _ (by rw[hu];simp[Program.pointee,hu]),rfl⟩
  ·rename_i e hu
   exact⟨_,run_neq_pointer_nil w xt _ (by rw[hu];simp[Program.pointee,hu]),rfl⟩
 ·rename_i k a k' b
  split at h
  case isFalse=>cases h
  rename_i hk
  subst hk
  cases hx;cases hy
  have hg:eqGuard op xt ox oy (.float k a) (.float k b)=pure ():=by cases op<;>rfl
  simp only[hg,Sem.run_bind,Sem.run_pure,Result.andThen_ok]
  split at h
  ·rename_i ha
   simp only[Option.some.injEq,Prod.mk.injEq] at h
   obtain⟨h1,rfl⟩:=h
   obtain⟨r,hr⟩:=Option.isSome_iff_exists.1 h1
   refine⟨.float k r,?_,by show _=_;rw[show fVal op k a b=r from by unfold fVal;rw[hr];rfl]⟩
   cases op<;>simp[isArith] at ha<;>(simp only[fArith] at hr;simp[binOp,Op.floatArith,hr])
  ·split at h
   case isFalse=>cases h
   rename_i hc
   simp only[Option.some.injEq,Prod.mk.injEq,true_and] at h
   subst h
   refine⟨_,?_,rfl⟩
   cases op<;>simp[isCmp] at hc<;>simp[binOp,Op.floatCmp,fCmp]
 ·rename_i a b
  split at h
  ·cases h
  ·rename_i hq
   obtain⟨xs,rfl,hxs⟩:=hx
   obtain⟨ys,rfl,hys⟩:=hy
   simp only[Sem.run_bind,run_eqGuard_agg w op xt ox oy _ _ (by simpa using hq),Result.andThen_ok]
   split at h<;>simp at h<;>subst h
   ·rename_i e he
    refine⟨_,?_,rfl⟩
    rw[run_eql_struct,eqAV_sound 8 xt _ _ e _ _ he ⟨xs,rfl,hxs⟩ ⟨ys,rfl,hys⟩ 10000 (by omega)]
    rfl
   ·rename_i e he
    refine⟨_,?_,rfl⟩
    rw[run_neq_struct,eqAV_sound 8 xt _ _ e _ _ he ⟨xs,rfl,hxs⟩ ⟨ys,rfl,hys⟩ 10000 (by omega)]
    rfl
 ·cases h
theorem evUn_sound{op:UnOp}{x v:AV}{vx:Value}(h:evUn op x=some (true,v))(hx:Den w m ρ x vx): ∃u,(Op.unary op vx).run P w= .ok u w∧Den w m ρ v u:=by
 unfold evUn at h
 split at h
 ·cases hx;simp at h;subst h;exact⟨_,by simp[Op.unary,Op.intArith],rfl⟩
 ·cases hx;simp at h;subst h;exact⟨_,by simp[Op.unary],rfl⟩
 ·cases hx;simp at h;subst h;exact⟨_,by simp[Op.unary,fNeg],rfl⟩
 ·cases h
theorem evConvert_sound{src dst:TypeId}{x v:AV}{vx:Value}(h:evConvert P src dst x=some (true,v))(hx:Den w m ρ x vx): ∃u,(convert src dst vx).run P w= .ok u w∧Den w m ρ v u:=by
 unfold evConvert at h
 split at h
 ·rename_i _ k k' n hs hd
  cases hx;simp at h;subst h
  refine⟨_,?_,rfl⟩
  simp[convert,run_underlying hs,run_underlying hd,Conv.intToInt]
 ·rename_i _ s hs hd
  cases hx;simp at h;subst h
  refine⟨_,?_,rfl⟩
  simp[convert,run_underlying hs,run_underlying hd]
 ·rename_i _ k k' n hs hd
  cases hx;simp at h;subst h
  refine⟨_,?_,rfl⟩
  simp[convert,run_underlying hs,run_underlying hd,Conv.intToFloat,fOf]
 ·rename_i _ k s b hs hd
  cases hx
  simp only[Option.some.injEq,Prod.mk.injEq] at h
  obtain⟨h1,rfl⟩:=h
  refine⟨_,?_,rfl⟩
  unfold fToOk at h1
  cases ht:(s.decode b).toInt .zero with
  |none=>rw[ht] at h1;cases h1
  |some n=>
   rw[ht] at h1
   have h2:=of_decide_eq_true h1
   simp[convert,run_underlying hs,run_underlying hd,Conv.floatToInt,ht,h2,fToV]
 ·cases h
theorem evField_sound{t:TypeId}{x v:AV}{f:Nat}{vx:Value}(h:evField P t x f=some (true,v))(hx:Den w m ρ x vx): ∃u,(Instr.field t vx f).run P w= .ok u w∧Den w m ρ v u:=by
 unfold evField at h
 split at h
 ·rename_i fs l hu
  obtain⟨vs,rfl,hl⟩:=hx
  split at h
  ·rename_i fd hf
   cases hp:partSV P fd.type l fd.offset with
   |none=>rw[hp] at h;simp at h
   |some v'=>
    rw[hp] at h
    simp at h
    subst h
    obtain⟨u,h1,h2⟩:=part_sound (w:=w) hp hl
    exact⟨u,by simp[Instr.field,run_underlying hu,hf,asAgg,h1],h2⟩
  ·cases h
 ·cases h
theorem asInts_get{k:IntKind}: ∀{l:List SV} {xs:List Int},asInts k l=some xs→ ∀(i:Nat),l[i]? = (xs[i]?).map (SV.int k)
 |[],xs,h,i=>by
  simp only[asInts,Option.some.injEq] at h
  subst h
  simp
 |s::l,xs,h,i=>by
  unfold asInts at h
  split at h
  ·rename_i he;cases he
  ·rename_i k' n l' he
   cases he
   split at h
   ·rename_i hk
    subst hk
    cases hx:asInts k' l with
    |none=>rw[hx] at h;simp at h
    |some ys=>
     rw[hx] at h
     simp at h
     subst h
     cases i with
     |zero=>simp
     |succ i=>simpa using asInts_get hx i
   ·cases h
  ·cases h
theorem intsOf_get{l:List SV}{k:IntKind}{xs:List Int}(h:intsOf l=some (k,xs))(i:Nat):l[i]? = (xs[i]?).map (SV.int k):=by
 unfold intsOf at h
 split at h
 ·rename_i k' _
  cases hx:asInts k' l with
  |none=>rw[hx] at h;simp at h
  |some ys=>
   rw[hx] at h
   simp at h
   obtain⟨rfl,rfl⟩:=h
   exact asInts_get hx i
 ·cases h
theorem evIndex_sound{t:TypeId}{x ix v:AV}{vx vi:Value}(h:evIndex P t x ix=some (true,v))(hx:Den w m ρ x vx)(hi:Den w m ρ ix vi): ∃u,(Instr.index t vx vi).run P w= .ok u w∧Den w m ρ v u:=by
 unfold evIndex at h
 split at h
 ·rename_i k j n e l hu
  obtain⟨vs,rfl,hl⟩:=hx
  cases hi
  split at h
  ·rename_i sz hsz
   have old: ∀v',partSV P e l (j.toNat*sz)=some v'→0≤j→j<(n:Int)→ ∃u,(Instr.index t (.agg vs.toArray) (.int k j)).run P w= .ok u w∧Den w m ρ v' u:=by
    intro v' hp h1 h2
    obtain⟨u,h3,h4⟩:=part_sound (w:=w) hp hl
    refine⟨u,?_,h4⟩
    simp[Instr.index,asIntOf,run_underlying hu,h1,h2,run_sizeOf' hsz,h3]
   split at h
   ·rename_i k' xs hxs
    split at h
    case isFalse=>cases h
    rename_i hc
    obtain⟨hagg,hnl⟩:=hc
    simp at h
    obtain⟨⟨h1,h2⟩,rfl⟩:=h
    have hi:l[j.toNat]? = some (.int k' (xs.getD j.toNat 0)):=by
     rw[intsOf_get hxs,List.getD,List.getElem?_eq_getElem (show j.toNat<xs.length by omega)]
     rfl
    exact old _ (by unfold partSV;rw[hagg];simp[hi]) h1 h2
   ·rw[Option.map_eq_some_iff] at h
    obtain⟨v',hp,h⟩:=h
    simp at h
    obtain⟨⟨h1,h2⟩,rfl⟩:=h
    exact old v' hp h1 h2
  ·cases h
 ·rename_i k j s hu
  cases hx
  cases hi
  simp at h
  obtain⟨⟨h1,h2⟩,rfl⟩:=h
  refine⟨.int .u8 ((s.getD j.toNat 0).toNat:Int),?_,rfl⟩
  have hs:(⟨s.toArray⟩:ByteArray)[j.toNat]? = some (s[j.toNat]):=by
   have hsz:j.toNat<(⟨s.toArray⟩:ByteArray).size:=by show _<s.toArray.size;simpa using h2
   rw[getElem?_pos (⟨s.toArray⟩:ByteArray) j.toNat hsz]
   rfl
  simp[Instr.index,asIntOf,run_underlying hu,h1,hs,List.getD,List.getElem?_eq_getElem h2]
 ·cases h
theorem svLen_slice{σ:List Blk}{s:SV}{n:Nat}{u:Value}(H:HeapOk F ρ σ w)(h:svLen σ s=some n)(hd:DenS w m ρ s u)(hn: ∀t,s≠ .str t): ∃a cap,u= .slice a n cap:=by
 cases s with
 |nil=>cases h;cases hd;exact⟨_,_,rfl⟩
 |data r=>cases h;obtain⟨a,cap,rfl,_⟩:=hd;exact⟨_,_,rfl⟩
 |own id wd=>
  simp only[svLen] at h
  cases hb:σ[id]? with
  |none=>rw[hb] at h;simp at h
  |some b=>
   rw[hb] at h
   simp only[Option.bind_some] at h
   split at h
   ·rename_i hl
    simp only[Option.some.injEq] at h
    obtain⟨g,x,cap,t,sz,h1,rfl,_⟩:=hd
    obtain⟨_,h3,_⟩:=H.live id b g x hb h1 hl
    exact⟨_,_,by rw[← h,h3]⟩
   ·cases h
 |sub id wd i k=>cases h;obtain⟨g,x,off,cap,_,rfl,_⟩:=hd;exact⟨_,_,rfl⟩
 |str s=>exact absurd rfl (hn s)
 |_=>simp[svLen] at h
theorem evLen_sound{σ:List Blk}{t ty:TypeId}{x v:AV}{vx:Value}{ts:List TypeId}(H:HeapOk F ρ σ w)(h:evLen P σ t x=some (true,v))(hx:Den w m ρ x vx):
  ∃u,(Builtin.len_ (t::ts).toArray ty #[vx]).run P w= .ok u w∧Den w m ρ v u:=by
 unfold evLen at h
 split at h
 ·rename_i s hu
  cases hx;simp at h;subst h
  exact⟨.int .i64 s.length,by simp[Builtin.len_,run_underlying hu,goInt];rfl,rfl⟩
 ·cases h
 ·rename_i e s hn hu
  cases hl:svLen σ s with
  |none=>rw[hl] at h;simp at h
  |some n=>
   rw[hl] at h
   simp at h
   subst h
   obtain⟨a,cap,rfl⟩:=svLen_slice H hl hx (fun t e=>hn t (by rw[e]))
   exact⟨_,by simp[Builtin.len_,run_underlying hu,goInt],rfl⟩
 ·rename_i n e hu
  simp at h
  subst h
  exact⟨_,by simp[Builtin.len_,run_underlying hu,goInt],rfl⟩
 ·rename_i kt et id hu
  split at h
  ·rename_i kw vw l hb
   simp at h
   subst h
   obtain⟨g,y,hg,rfl⟩:=hx
   obtain⟨⟨es,clock,h1,h2,_⟩,_,_⟩:=H.live id _ g y hb hg rfl
   refine⟨.int .i64 l.length,?_,rfl⟩
   have hl:es.size=l.length:=by have:=h2.length;simpa using this
   simp[Builtin.len_,run_underlying hu,goInt,getObj,Sem.run,h1,hl]
  ·cases h
 ·cases h
theorem maxInt_sound{k:IntKind}: ∀{l:List AV} {x n:Int} {vs:List Value},maxInt k x l=some n→All2 (Den w m ρ) l vs→
  (vs.foldlM Builtin.max2 (.int k x)).run P w= .ok (.int k n) w:=by
 intro l
 induction l with
 |nil=>
  intro x n vs h hl
  cases vs with
  |nil=>simp only[maxInt,Option.some.injEq] at h;subst h;rfl
  |cons a l=>exact hl.elim
 |cons a l ih=>
  intro x n vs h hl
  cases vs with
  |nil=>exact hl.elim
  |cons u vs=>
   obtain⟨hd,hl⟩:=hl
   unfold maxInt at h
   split at h
   ·rename_i he;cases he
   ·rename_i k' y l' he
    cases he
    split at h
    ·rename_i hk
     subst hk
     cases hd
     have:=ih h hl
     simpa [Builtin.max2] using this
    ·cases h
   ·cases h
theorem minInt_sound{k:IntKind}: ∀{l:List AV} {x n:Int} {vs:List Value},minInt k x l=some n→All2 (Den w m ρ) l vs→
  (vs.foldlM Builtin.min2 (.int k x)).run P w= .ok (.int k n) w:=by
 intro l
 induction l with
 |nil=>
  intro x n vs h hl
  cases vs with
  |nil=>simp only[minInt,Option.some.injEq] at h;subst h;rfl
  |cons a l=>exact hl.elim
 |cons a l ih=>
  intro x n vs h hl
  cases vs with
  |nil=>exact hl.elim
  |cons u vs=>
   obtain⟨hd,hl⟩:=hl
   unfold minInt at h
   split at h
   ·rename_i he;cases he
   ·rename_i k' y l' he
    cases he
    split at h
    ·rename_i hk
     subst hk
     cases hd
     have:=ih h hl
     simpa [Builtin.min2] using this
    ·cases h
   ·cases h
theorem maxFlt_sound{k:FloatKind}: ∀{l:List AV} {x n:Nat} {vs:List Value},maxFlt k x l=some (true,n)→All2 (Den w m ρ) l vs→
  (vs.foldlM Builtin.max2 (.float k x)).run P w= .ok (.float k n) w:=by
 intro l
 induction l with
 |nil=>
  intro x n vs h hl
  cases vs with
  |nil=>simp only[maxFlt,Option.some.injEq,Prod.mk.injEq,true_and] at h;subst h;rfl
  |cons a l=>exact hl.elim
 |cons a l ih=>
  intro x n vs h hl
  cases vs with
  |nil=>exact hl.elim
  |cons u vs=>
   obtain⟨hd,hl⟩:=hl
   unfold maxFlt at h
   split at h
   ·rename_i he;cases he
   ·rename_i x x2 l0 k' y l' he
    cases he
    split at h
    ·rename_i hk
     subst hk
     cases hd
     cases hm:maxFlt k' (fMaxV k' x y) l with
     |none=>rw[hm] at h;simp at h
     |some p=>
      obtain⟨c,n'⟩:=p
      rw[hm] at h
      simp only[Option.map_some,Option.some.injEq,Prod.mk.injEq,Bool.and_eq_true] at h
      obtain⟨⟨h1,rfl⟩,rfl⟩:=h
      have:=ih hm hl
      have e:(Builtin.max2 (.float k' x) (.float k' y)).run P w= .ok (.float k' (fMaxV k' x y)) w:=by
       unfold fMaxOk at h1
       unfold fMaxV
       split
       ·rename_i ho;rw[ho] at h1;cases h1
       all_goals rename_i ho;simp[Builtin.max2,ho]
      simp[e,this]
    ·cases h
   ·cases h
end
end Go.Ev
