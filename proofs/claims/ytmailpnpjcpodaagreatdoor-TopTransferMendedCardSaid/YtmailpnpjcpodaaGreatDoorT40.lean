/-
  Part of the proof that TopTransferMended holds.
-/
import Derived.Test.YtmailpnpjcpodaaGreatDoorT39
import Derived.Handed
import Derived.MakeChecks
import Derived.FnData
import Derived.Stop.LaidErr
import Derived.SevenTiedAt
import Derived.Test.YtmailpnpjcpodaaGreatDoorTie
import Derived.Test.YtmailpnpjcpodaaGreatDoorCards
set_option linter.unusedVariables false
set_option linter.unusedSimpArgs false
set_option linter.unusedSectionVars false
namespace Go.Ev
open Go Go.RowKit Go.ChangeShapes Go.WideShapes
variable [Glob]
theorem cell_lt{w:World}{a:Addr}{v:Value}(h:w.cell? a=some v):a.block<w.heap.size:=by
 rcases Nat.lt_or_ge a.block w.heap.size with hl|hl
 ·exact hl
 ·exfalso
  unfold World.cell? at h
  have e:w.heap[a.block]? = none:=Array.getElem?_eq_none hl
  rw[e] at h
  simp at h
section
variable {H:Type} {enc:TypeId × Value→H} {P:Program} {w:World} {base:Nat} {held:Bool} {m:Nat→Prop}
theorem fields_open{g:TypeId→Option (List PD)}{cs:List Value}: ∀(fs:List (Nat × TypeId)) (off:Nat) {l:List PD},fieldsT P g off fs=some l→
  (∀(j o:Nat) (t:TypeId),fs[j]? = some (o,t)→ ∀l',g t=some l'→Opens l' fun r=>All2 (DenS w m []) r ((cs.drop o).take (P.cellsOf t)))→cs.length=off+l.length→
  Opens l fun r=>All2 (DenS w m []) r (cs.drop off)
 |[],off,l,h,_,hlen=>by
  simp only[fieldsT,Option.some.injEq] at h
  subst h
  simp only[List.length_nil,Nat.add_zero] at hlen
  show All2 _ [] _
  rw[List.drop_eq_nil_of_le (by omega)]
  trivial
 |(o,t)::fs,off,l,h,H,hlen=>by
  unfold fieldsT at h
  split at h
  case isFalse=>cases h
  rename_i ho
  subst ho
  split at h
  case h_2=>cases h
  rename_i l1 hg
  split at h
  case isFalse=>cases h
  rename_i hc
  cases hr:fieldsT P g (o+l1.length) fs with
  |none=>rw[hr] at h;cases h
  |some l2=>
   rw[hr] at h
   simp only[Option.map_some,Option.some.injEq] at h
   subst h
   rw[List.length_append] at hlen
   have h1:=H 0 o t rfl l1 hg
   have h2:=fields_open fs (o+l1.length) hr (fun j o' t' hj=>H (j+1) o' t' hj) (by omega)
   refine Opens.append (h1.mono fun r hr1=>h2.mono fun r' hr2=> ?_)
   have:=hr1.append hr2
   rw[hc,← List.drop_drop,List.take_append_drop] at this
   exact this
theorem open_pd(hm: ∀b,¬m b): ∀(f:Nat) {t:TypeId} {l:List PD} {fuel:Nat} {cs:List Value} {x:DataW H × List MemPlace},pdT P f t=some l→
  DataW.trod enc P w base (fun _=>true) held fuel t cs=some x→Opens l fun r=>All2 (DenS w m []) r cs
 |0,_,_,_,_,_,h,_=>by cases h
 |f+1,t,l,fuel,cs,x,h,hx=>by
  unfold pdT at h
  split at h
  ·rename_i k hu
   cases h
   obtain⟨n,rfl,_,hw⟩:=DataW.trod_int hu hx
   exact⟨n,hw,rfl,trivial⟩
  ·rename_i hu
   cases h
   obtain⟨b,rfl,_⟩:=DataW.trod_bool hu hx
   exact⟨b,rfl,trivial⟩
  ·rename_i hu
   cases h
   obtain⟨s,rfl,_,hs⟩:=DataW.trod_string hu hx
   exact⟨s.data.toList,by rw[Array.length_toList];exact hs,by show Value.string s= .string ⟨s.data.toList.toArray⟩;rw[Array.toArray_toList],trivial⟩
  ·rename_i e hu
   split at h
   case h_2=>cases h
   rename_i l' hl'
   split at h
   case h_2=>cases h
   rename_i cks hcks
   split at h
   case isFalse=>cases h
   rename_i hc
   obtain⟨hce,hpos⟩:=hc
   cases h
   rcases Go.Deep.open_slice hu hx with⟨rfl,_⟩|⟨a,len,cap,mm,n,Dt,Pl,rfl,hb,hl,hmx,hmm,_,hi⟩
   ·exact OpenR.mono (P:=fun s=>DenS w m [] s (.slice none 0 0)) (Q:=fun s=>DenS w m [] s (.slice none 0 0)∧True) (fun s hs=>⟨hs,trivial⟩) (rows_of (w:=w) (m:=m) (cks:=cks) (u:= .slice none 0 0) (n:=0) (cap:=0) (a:=none) rfl (Nat.le_refl _) (Nat.zero_le _) hpos (.inl rfl))
   ·have hle:len≤mm:=by rw[hmm];split<;>omega
    have hel: ∀i,i<len→ ∃ds:List D,All2 okD cks ds∧ ∀(c:Nat) (ck:CK),cks[c]? = some ck→ ∃v,w.cell? (a.add (i*cks.length+c))=some v∧DenC w m ck (ds.getD c (.int 0)) v:=by
     intro i hil
     obtain⟨cs',h1,h2⟩:=hi i (by omega)
     obtain⟨ds,h3,h4,h5⟩:=cks_of hcks (open_pd hm f hl' h2)
     refine⟨ds,h3,fun c ck hck=> ?_⟩
     obtain⟨v,h6,h7⟩:=h5 c ck hck
     obtain⟨_,_,hat⟩:=World.cells?_some h1
     have hcl:c<P.cellsOf e:=by rw[hce];exact(List.getElem?_eq_some_iff.1 hck).1
     have:=hat c hcl
     rw[Go.Ev.add_add,hce] at this
     exact⟨v,this.trans h6,h7⟩
    refine OpenR.mono (P:=fun s=>DenS w m [] s (.slice (some a) len cap)) (Q:=fun s=>DenS w m [] s (.slice (some a) len cap)∧True) (fun s hs=>⟨hs,trivial⟩) (rows_of (w:=w) (m:=m) (cks:=cks) (u:= .slice (some a) len cap) (n:=len) (cap:=cap) (a:=some a) rfl hl hmx hpos ?_)
    rcases Nat.eq_zero_or_pos len with h0|h0
    ·exact .inl h0
    ·refine .inr ⟨a,rfl,?_,hm _,hel⟩
     obtain⟨ds,_,h5⟩:=hel 0 h0
     obtain⟨v,h6,_⟩:=h5 0 _ (List.getElem?_eq_getElem hpos)
     have:=cell_lt h6
     rwa [add_block] at this
  ·rename_i fs hu
   split at h
   case h_2=>cases h
   rename_i l' hf
   split at h
   case isFalse=>cases h
   rename_i hc
   cases h
   obtain⟨xs,n,_,_,hlen,hxl,hat⟩:=DataW.trod_struct hu hx
   have:=fields_open (w:=w) (m:=m) (cs:=cs) _ 0 hf (fun j o t' hj l' hg=>by
    rw[List.getElem?_map] at hj
    cases hfj:fs.toList[j]? with
    |none=>rw[hfj] at hj;cases hj
    |some fd=>
     rw[hfj] at hj
     simp only[Option.map_some,Option.some.injEq,Prod.mk.injEq] at hj
     obtain⟨rfl,rfl⟩:=hj
     have hfa:fs[j]? = some fd:=by simpa using hfj
     have h1:=hat j fd hfa
     have hjl:j<xs.length:=by rw[hxl];exact(Array.getElem?_eq_some_iff.1 hfa).1
     rw[List.getElem?_eq_getElem hjl] at h1
     exact open_pd hm f hg h1) (by omega)
   simpa using this
  ·rename_i n e hu
   split at h
   case isFalse=>cases h
   split at h
   case h_2=>cases h
   rename_i l' hf
   split at h
   case isFalse=>cases h
   rename_i hc
   cases h
   obtain⟨xs,n',_,_,hlen,hxl,hat⟩:=DataW.trod_array hu hx
   have:=fields_open (w:=w) (m:=m) (cs:=cs) _ 0 hf (fun j o t' hj l' hg=>by
    rw[List.getElem?_map] at hj
    rcases Nat.lt_or_ge j n with hjn|hjn
    ·rw[List.getElem?_range hjn] at hj
     simp only[Option.map_some,Option.some.injEq,Prod.mk.injEq] at hj
     obtain⟨rfl,rfl⟩:=hj
     have h1:=hat j hjn
     rw[List.getElem?_eq_getElem (by omega)] at h1
     exact open_pd hm f hg h1
    ·rw[List.getElem?_eq_none (by simpa using hjn)] at hj
     cases hj) (by omega)
   simpa using this
  ·cases h
def argAV:Bool→List SV→AV
 |false,[s]=> .one s
 |_,l=> .agg l
theorem open_arg(hm: ∀b,¬m b){f b0:Nat}{t:TypeId}{v:Value}{d:DataW H}{p:List MemPlace}{l:List PD}{agg:Bool}(hok:Value.okWide P w .any b0 t v)(h:DataW.Trod enc P w base (fun _=>true) held t v d p)
  (hl:pdT P f t=some l) (ha:aggT P t=some agg):Opens l fun r=>Den w m [] (argAV agg r) v:=by
 obtain⟨fuel,hx⟩:=h
 have ho:=open_pd hm f hl hx
 cases agg with
 |true=>
  have: ∃cs,v= .agg cs:=by
   unfold Value.okWide at hok
   unfold aggT at ha
   cases hu:P.underlying t with
   |none=>rw[hu] at ha;cases ha
   |some td=>
    rw[hu] at ha hok
    cases td<;>first|(simp at ha;done)|(obtain⟨cs,h,_⟩:=hok;exact⟨cs,h⟩)
  obtain⟨cs,rfl⟩:=this
  exact ho.mono fun r hr=>⟨cs.toList,by simp,hr⟩
 |false=>
  have hv:v.cells = #[v]:=by
   unfold aggT at ha
   cases f with
   |zero=>cases hl
   |succ f=>
    unfold pdT at hl
    split at hl
    ·rename_i k hu;obtain⟨n,rfl⟩:=okWide_int hu hok;rfl
    ·rename_i hu;obtain⟨n,rfl⟩:=okWide_bool hu hok;rfl
    ·rename_i hu;obtain⟨n,rfl⟩:=okWide_string hu hok;rfl
    ·rename_i e hu;obtain⟨n,_,_,rfl⟩:=okWide_slice hu hok;rfl
    ·rename_i fs hu;rw[hu] at ha;simp at ha
    ·rename_i fs e hu;rw[hu] at ha;simp at ha
    ·cases hl
  rw[hv] at ho
  refine ho.mono fun r hr=> ?_
  match r,hr with
  |[s],hr=>exact hr.1
def argsT(P:Program):List TypeId→Option (List (Bool × List PD))
 |[]=>some []
 |t::ts=>match aggT P t,pdT P 8 t,argsT P ts with
  |some a,some l,some r=>some ((a,l)::r)
  |_,_,_=>none
def OpensA:List (Bool × List PD)→(List AV→Prop)→Prop
 |[],Q=>Q []
 |(agg,l)::r,Q=>Opens l fun s=>OpensA r fun as=>Q (argAV agg s::as)
theorem OpensA.mono: ∀{l:List (Bool × List PD)} {P Q:List AV→Prop},(∀r,P r→Q r)→OpensA l P→OpensA l Q
 |[],_,_,H,h=>H _ h
 |(_,_)::_,_,_,H,h=>Opens.mono (fun _ h=>OpensA.mono (fun _ hr=>H _ hr) h) h
theorem open_all(hm: ∀b,¬m b): ∀{ts:List TypeId} {vs:List Value} {ds:List (DataW H)} {p:List MemPlace} {ls:List (Bool × List PD)},argsT P ts=some ls→DataW.TrodAll enc P w base (fun _=>true) held ts vs ds p→
  (∀(j:Nat) t v,ts[j]? = some t→vs[j]? = some v→ ∃b0,Value.okWide P w .any b0 t v)→OpensA ls fun as=>All2 (Den w m []) as vs
 |[],[],[],_,ls,h,_,_=>by cases h;trivial
 |t::ts,v::vs,d::ds,p,ls,h,hA,hok=>by
  unfold argsT at h
  split at h
  case h_2=>cases h
  rename_i a l r ha hl hr
  cases h
  obtain⟨p1,q1,h1,h2,_⟩:=hA
  obtain⟨b0,hok0⟩:=hok 0 t v rfl rfl
  have o1:=open_arg hm hok0 h1 hl ha
  have o2:=open_all hm hr h2 fun j t v ht hv=>hok (j+1) t v ht hv
  exact o1.mono fun s hs=>o2.mono fun as has=>⟨hs,has⟩
 |[],[],_::_,_,_,_,h,_=>h.elim
 |[],_::_,_,_,_,_,h,_=>h.elim
 |_::_,[],_,_,_,_,h,_=>h.elim
 |_::_,_::_,[],_,_,_,h,_=>h.elim
theorem below_all{P:Program}(hl:laidOutB P=true){W W':World}(hb:Below W.heap.size W W'): ∀{ts:List TypeId} {vs:List Value} {ds:List (DataW H)} {p:List MemPlace},(∀t ∈ ts,(P.readableRec t&&decide (t<P.types.size))=true)→
  DataW.TrodAll enc P W 0 (fun _=>true) true ts vs ds p→(∀x ∈ p,x.block<W.heap.size)→DataW.TrodAll enc P W' 0 (fun b=>decide (b<W.heap.size)) true ts vs ds p
 |[],[],[],_,_,h,_=>h
 |t::ts,v::vs,d::ds,p,hr,hA,hlt=>by
  obtain⟨p1,q1,h1,h2,rfl⟩:=hA
  have ht:=hr t (by simp)
  simp only[Bool.and_eq_true,decide_eq_true_eq] at ht
  exact⟨p1,q1,Below.trod hl ht.1 ht.2 h1 hb fun x hx=>hlt x (by simp[hx]),below_all hl hb (fun t ht=>hr t (by simp[ht])) h2 fun x hx=>hlt x (by simp[hx]),rfl⟩
 |[],[],_::_,_,_,h,_=>h.elim
 |[],_::_,_,_,_,h,_=>h.elim
 |_::_,[],_,_,_,h,_=>h.elim
 |_::_,_::_,[],_,_,h,_=>h.elim
end
section
variable {H:Type} {enc:TypeId × Value→H}
theorem law_calls{P:Program}{f:FuncId}{fn:Func}{s:ChangeSpec}{S:Spec}{shapes:List (Bool × List PD)}{bt:TypeId}(laid:laidOutB P=true)
  (hread: ∀t ∈ fn.params.toList,(P.readableRec t&&decide (t<P.types.size))=true) (hres:fn.resultTypes = #[bt]) (hbt:P.underlying bt=some .bool) (hvars:s.vars=[])
  (hspec: ∀ds:List (DataW H),ds.length=fn.params.size→s.fn H (ds++[])={ results:=[.lit (.bool true)],args:=ds }) (hS:SpecOK P f S) (hshape:argsT P fn.params.toList=some shapes)
  (hopen: ∀Q:List AV→Prop,OpensA shapes Q→ ∃as,Q as∧S as [] fun a _=>a= .one (.bool true))
  (W:World) (base:Nat) (args:Array Value) (ds gs:List (DataW H)) (before:List MemPlace)
  (hval: ∀(j:Nat) t v,fn.params[j]? = some t→args[j]? = some v→Value.okWide P W .any base t v) (hW:DataW.Whole enc P fn.params.toList s.vars false W args.toList ds gs before) (hglob:GlobOK (Mut (fun _=>False) [] []) W):
  Calls P f args W fun e W'=> ∃v,e= .returned v∧s.post enc P fn false true false false W args v W':=by
 have hlt:=hW.lt
 have hW':=hW
 obtain⟨p,q,hA,hV,rfl,_,_⟩:=hW
 rw[hvars] at hV
 obtain⟨rfl,rfl⟩:=trodVars_none hV
 simp only[List.append_nil] at hW' hlt
 have hm: ∀b,¬Mut (fun _=>False) [] [] b:=by
  rintro b (h|⟨id,_,_,_,h,_⟩)
  ·exact h
  ·simp at h
 have ho:=open_all (m:=Mut (fun _=>False) [] []) hm hshape hA fun j t v ht hv=>⟨base,hval j t v (by simpa using ht) (by simpa using hv)⟩
 obtain⟨as,has,hSa⟩:=hopen _ ho
 have hc:=hS.sound as [] _ hSa (fun _=>False) [] args.toList W ⟨rfl,fun id b g n h=>by simp at h,fun id b g n k h=>by simp at h,fun i j b b' g g' n n' k h=>by simp at h,hglob⟩ (fun b h=>h.elim) has
 rw[Array.toArray_toList] at hc
 refine hc.mono ?_
 rintro e W' ⟨v,a,σ',ρ',rfl,rfl,I,K,hd⟩
 have hv:v= .bool true:=hd
 subst hv
 have hb:Below W.heap.size W W':=⟨I.os,I.tape,I.output,I.size,fun b hb=>I.blk b hb (by rintro ⟨id,_,_,_,h,_⟩;simp at h)⟩
 have hlen:ds.length=fn.params.size:=by
  have: ∀(ts:List TypeId) (vs:List Value) (ds:List (DataW H)) (p:List MemPlace),DataW.TrodAll enc P W 0 (fun _=>true) true ts vs ds p→ds.length=ts.length:=by
   intro ts
   induction ts with
   |nil=>intro vs ds p h;cases vs<;>cases ds<;>first|rfl|exact h.elim
   |cons t ts ih=>
    intro vs ds p h
    cases vs with
    |nil=>cases ds<;>exact h.elim
    |cons v vs=>
     cases ds with
     |nil=>exact h.elim
     |cons d ds=>
      obtain⟨_,_,_,h2,_⟩:=h
      simp[ih _ _ _ h2]
  simpa using this _ _ _ _ hA
 have es:=hspec ds hlen
 refine⟨_,rfl,ds,[],p,[],p,[],hW',?_,?_,?_,hb.frame _,fun h=>by cases h⟩
 ·rw[es,hres]
  exact trodAll_mk1 (shut_bool hbt _)
 ·rw[es]
  exact below_all laid hb hread hA hlt
 ·rw[es,hvars]
  rfl
end
end Go.Ev
namespace Go
section
variable {H:Type} {enc:TypeId × Value→H}
theorem returnsInHanded_of_change_and_shaped{a:Assume}{C:Checked}{os:Os}{f:FuncId}{fn:Func}{s:ChangeSpec}{conds:List PathCond}{apart fresh handsOn again:Bool}{X:World→Array Value→Prop}
  (hX: ∀(w w':World) (args:Array Value),w.heap=w'.heap→X w args→X w' args)
  (own:ownKnob C.prog.godebug=none) (started:os.Started) (noInit:C.prog.inits.idxOf? f=none) (hfn:C.prog.funcs[f]? = some fn)
  (witness: ∃(w:World) (tape:Tape) (i:Input),w.os=os∧(w.forCall tape i).Shaped C.prog∧i.vars=[]∧Input.okWide C.prog (w.forCall tape i) .any w.heap.size f i∧
   ((s.pre enc C.prog fn conds apart (w.forCall tape i).memory i.args∧X (w.forCall tape i).memory i.args)∧sizedMet enc C.prog fn (OpenSpec.ofChange s) apart (w.forCall tape i).memory i.args)∧a.holds C.prog (lone (Frame.enter C.prog f i.args .normal) [] (w.forCall tape i)))
  (contract: ∀(W:World) (base:Nat) (args:Array Value) (ds gs:List (DataW H)) (before:List MemPlace),(∀(j:Nat) t v,fn.params[j]? = some t→args[j]? = some v→Value.okWide C.prog W .any base t v)→
   DataW.Whole enc C.prog fn.params.toList s.vars apart W args.toList ds gs before→X W args→W.ShapedOpen C.prog→
   Calls C.prog f args W fun e W'=> ∃v,e= .returned v∧s.post enc C.prog fn apart fresh handsOn again W args v W'):
  ReturnsInHanded a C os f .any (fun w args=>(s.pre enc C.prog fn conds apart w args∧X w args)∧sizedMet enc C.prog fn (OpenSpec.ofChange s) apart w args) (s.post enc C.prog fn apart fresh handsOn again):=by
 refine returnsInHanded_of_calls own started noInit witness ?_
 intro w tape i _ hsh _ hok hpre hholds
 obtain⟨_,_,_,fn',hfn',_,_,_,_,hval⟩:=hok
 have e:fn'=fn:=Option.some.inj (hfn'.symm.trans hfn)
 subst e
 obtain⟨⟨⟨ds,gs,before,hw,hc⟩,hx⟩,hz⟩:=hpre
 have hw':=DataW.Whole.of_heap (w':=w.forCall tape i) (by rfl) hw
 refine(contract (w.forCall tape i) w.heap.size i.args ds gs before hval hw' (hX _ _ _ (by rfl) hx) hsh).mono fun e W' ⟨v,he,hp⟩=> ?_
 subst he
 exact ChangeSpec.post_blind hp
end
theorem block_of_shapedOpen_int{P:Program}{w:World}{g:Nat}{t:TypeId}{zero:Array Value}{k:IntKind}
  (h:w.ShapedOpen P) (hg:g<P.globals.size)
  (h0:((begin P (fun _ _=>0) default).world.heap[g]?).bind Obj.row? = some (zero,t)) (hz:zero.size=1)
  (hb:P.buildable t=true) (hc:P.cellTypes P.depth t=some [t]) (hu:P.underlying t=some (.int k)):
  ∃m fr,w.heap[g]? = some (.cells #[.int k m] t fr):=by
 obtain⟨cs,hh,hs,hr⟩:=h.1 g zero t hg h0
 obtain⟨ts,hts,_,hall⟩:=hr hb
 rw[hc] at hts
 cases hts
 have h1:0<cs.size:=by omega
 obtain⟨u,hu',hok⟩:=hall 0 cs[0] (by simp[h1])
 have:u=t:=by simpa using hu'.symm
 subst this
 unfold Cell.ok at hok
 rw[hu] at hok
 cases hv:cs[0]<;>rw[hv] at hok<;>simp at hok
 case int k' n=>
  refine⟨n,(0,0),hh.trans ?_⟩
  congr 2
  apply Array.ext
  ·simp;omega
  ·intro i h1 h2
   have:i=0:=by simp at h2;omega
   subst this
   rw[hv,hok.1];rfl
end Go
namespace Go.Ev
open Go Go.Proofs Go.RowKit
theorem laid_tail{P:Program}{x:String × DataW Unit}{r:List (String × DataW Unit)}{w:World}(h:laidMet P (x::r) w):laidMet P r w:=by
 obtain⟨ps,⟨g,t,cs,fuel,p,q,hg,ht,hv,hd,hr,rfl⟩,hn,hc⟩:=h
 exact⟨q,hr,(List.nodup_append.1 hn).2.1,fun b off hb=>hc b off (List.mem_append_right _ hb)⟩
theorem var_block{P:Program}{w:World}{name:String}{g:Nat}{cs:Array Value}(hg:P.globalNamed name=some g)(h:w.var? P name=some cs): ∃t fr,w.heap[g]? = some (.cells cs t fr):=by
 unfold World.var? at h
 rw[hg] at h
 change (match w.heap[g]? with|some (.cells cs _ _)=>some cs|_=>none)=some cs at h
 split at h
 ·rename_i c t fr hh
  cases h
  exact⟨t,fr,hh⟩
 ·cases h
theorem all2_tab(k:IntKind): ∀zs:List Int,All2 plainDen (zs.map (SV.int k)) (zs.map fun z=>Value.int k z)
 |[]=>trivial
 |z::zs=>⟨rfl,all2_tab k zs⟩
theorem glob_block{w:World}{g:Nat}{l:List SV}{arr:Array Value}{t:TypeId}{fr:Nat × Nat}(h:w.heap[g]? = some (.cells arr t fr))(hl:All2 plainDen l arr.toList):
  g<w.heap.size∧¬Mut (fun _=>False) [] [] g∧ ∀(j:Nat) (sv:SV),l[j]? = some sv→(∃u,w.cell? ⟨g,j,none⟩=some u∧plainDen sv u)∧ ∃arr t fr,w.heap[g]? = some (.cells arr t fr)∧arr.size=l.length:=by
 refine⟨(Array.getElem?_eq_some_iff.1 h).1,?_,fun j sv hj=>⟨?_,arr,t,fr,h,by rw[hl.length];simp⟩⟩
 ·rintro (h|⟨id,_,_,_,h,_⟩)
  ·exact h
  ·simp at h
 ·obtain⟨u,hu,hd⟩:=hl.get hj
  exact⟨u,by rw[cell_of_cells h];simpa using hu,hd⟩
theorem glob_int{w:World}{g:Nat}{m:Int}{t:TypeId}{fr:Nat × Nat}(h:w.heap[g]? = some (.cells #[.int .i64 m] t fr)): g<w.heap.size∧¬Mut (fun _=>False) [] [] g∧ ∀(j:Nat) (sv:SV),[SV.any][j]? = some sv→(∃u,w.cell? ⟨g,j,none⟩=some u∧plainDen sv u)∧ ∃arr t fr,w.heap[g]? = some (.cells arr t fr)∧arr.size=[SV.any].length:= glob_block h ⟨⟨m,rfl⟩,trivial⟩
theorem maxlen_glob{w:World}(hs:w.ShapedOpen Tryz.prog): ∃m t fr,w.heap[1]? = some (.cells #[.int .i64 m] t fr):=by
 obtain⟨m,fr,h⟩:=block_of_shapedOpen_int (P:=Tryz.prog) (g:=1) (t:=3) (zero := #[.int .i64 0]) (k:= .i64) hs (by decide +kernel) (by kernel_rfl) rfl (by kernel_rfl) (by kernel_rfl) (by kernel_rfl)
 exact⟨m,3,fr,h⟩
theorem row_err(u:TypeId) (h:Tryz.prog.typeName? 3 u=some "*errors.errorString"):u=224:=
 typeName_ptr_named (nm := "errors.errorString") (by rw[show "*" ++ "errors.errorString" = "*errors.errorString" by decide];kernel_rfl) (by kernel_rfl) (by decide) u (by rw[show "*" ++ "errors.errorString" = "*errors.errorString" by decide];exact h)
theorem err_glob{w:World}{n:String}{g:Nat}{text:List UInt8}{r:List (String × DataW Unit)}
  (hg:Tryz.prog.globalNamed n=some g) (ht:(Tryz.prog.globals[g]?).map (·.type)=some 152)
  (h:laidMet Tryz.prog ((n,.iface "*errors.errorString" (.ptr (.agg [.lit (.string text)])))::r) w): ∃a t fr,w.heap[g]? = some (.cells #[.iface 224 (.pointer (some a))] t fr):=by
 obtain⟨a,s,hv,_⟩:=laid_sentinel h hg ht Tryz.underlying152 row_err Tryz.underlying224 Tryz.underlying226 rfl rfl Tryz.underlying9 (by kernel_rfl) (by kernel_rfl)
 obtain⟨t,fr,hb⟩:=var_block hg hv
 exact⟨a,t,fr,hb⟩
theorem all2_ifc(u:TypeId)(v:Value):All2 plainDen [SV.ifc false] [Value.iface u v]:=⟨.inr ⟨rfl,_,_,rfl⟩,trivial⟩
end Go.Ev
namespace Go.Ev
open Go Go.Proofs Go.RowKit
theorem blk_glob{w:World}{a b c:String × DataW Unit}{t1 t2:List UInt8}{r:List (String × DataW Unit)}
  (h:laidMet Tryz.prog (a::b::("internal/strconv.uint64pow10",Lib.tabData .u64 Lib.pow10Tab)::c::("strconv.ErrRange",.iface "*errors.errorString" (.ptr (.agg [.lit (.string t1)])))::("strconv.ErrSyntax",.iface "*errors.errorString" (.ptr (.agg [.lit (.string t2)])))::r) w) (hs:w.ShapedOpen Tryz.prog):
  GlobOK (Mut (fun _=>False) [] []) w:=by
 have h2:=laid_tail (laid_tail h)
 have h4:=laid_tail (laid_tail h2)
 have h5:=laid_tail h4
 have htab:=Lib.tabIs_of_head (g:=2) (t:=208) (e:=179) (n:=20) (by kernel_rfl) (by kernel_rfl) (by kernel_rfl) (by kernel_rfl) (by kernel_rfl) (by kernel_rfl) h2
 obtain⟨t2,fr2,hb2⟩:=var_block (show Tryz.prog.globalNamed "internal/strconv.uint64pow10" = some 2 by kernel_rfl) htab
 obtain⟨m,t1,fr1,hb1⟩:=maxlen_glob hs
 obtain⟨a4,t4,fr4,hb4⟩:=err_glob (g:=4) (by kernel_rfl) (by kernel_rfl) h4
 obtain⟨a3,t3,fr3,hb3⟩:=err_glob (g:=3) (by kernel_rfl) (by kernel_rfl) h5
 have k2:=glob_block hb2 (all2_tab .u64 Lib.pow10Tab)
 have k3:=glob_block (l:=[SV.ifc false]) hb3 (all2_ifc _ _)
 have k4:=glob_block (l:=[SV.ifc false]) hb4 (all2_ifc _ _)
 intro g l hl
 match g,hl with
 |0,hl=>cases hl
 |1,hl=>cases hl;exact glob_int hb1
 |2,hl=>cases hl;exact k2
 |3,hl=>cases hl;exact k3
 |4,hl=>cases hl;exact k4
 |n+5,hl=>cases hl
end Go.Ev
namespace Go.Proofs.YtmailpnpjcpodaaGreatDoor
open Go Go.ChangeShapes Go.WideShapes
theorem topTransferMended_named:Tryz.pinned.checked.prog.funcNamed Rows.topTransferMendedRow.func=some 5:=by kernel_rfl
theorem topTransferMended_closed:joinedFacts Tryz.pinned.checked.prog 5 Tryz.f5 Rows.topTransferMendedSpec Rows.topTransferMendedRow=true:=by kernel_rfl
theorem topTransferMended_inst:Tryz.f5.isInstance Tryz.pinned.checked.prog Rows.topTransferMendedRow.origin Rows.topTransferMendedRow.targs:=of_decide_eq_true (by kernel_rfl)
theorem topTransferMended_wrap:Tryz.f5.isWrapper Tryz.pinned.checked.prog Rows.topTransferMendedRow.wrapper Rows.topTransferMendedRow.mainSum:=by unfold Func.isWrapper;first|(rw[if_pos (by decide +kernel)];kernel_rfl)|(rw[if_neg (by decide +kernel)];exact⟨rfl,rfl⟩)
theorem topTransferMended_wf:Rows.topTransferMendedRow.wfByText (OpenSpec.ofChange Rows.topTransferMendedSpec)=true:=by kernel_rfl
theorem topTransferMended_main:Tryz.pinned.checked.prog.mainIs=some (true, "9bd40e97afd85f91163ea525d99619bd3d4dc301a18e589866391605f4d880fd".toList):=by kernel_rfl
theorem topTransferMended_goes:false=Rows.topTransferMendedRow.goesBy Tryz.pinned.checked.prog:=by kernel_rfl
theorem topTransferMended_looks:true=Tryz.pinned.checked.prog.looks []:=by kernel_rfl
theorem topTransferMended_plain:(Tryz.f5.params.toList.all fun u=> !Tryz.prog.wantsStandIn u)=true:=by kernel_rfl
end Go.Proofs.YtmailpnpjcpodaaGreatDoor
