/-
  Part of the proof that TopClickOnly holds.
-/
import Derived.Test.YtgkngjjnpiheoaaT14
import Derived.JoinedOf
import Derived.ChangeSame
import Derived.Carry
import Derived.SizedLaws
import Derived.OpenShut
import Derived.WideShapes
import Derived.Deep.Slices
import Derived.RowKit
set_option linter.unusedVariables false
set_option linter.unusedSimpArgs false
set_option linter.unusedSectionVars false
namespace Go.Ev
open Go Go.RowKit Go.ChangeShapes Go.WideShapes
variable [Glob]
inductive PD where
 |cell (c:CK)
 |rows (cks:List CK)
def PD.ck:PD→Option CK
 |.cell c=>some c
 |.rows [.int k]=>some (.sints k)
 |_=>none
def fieldsT(P:Program)(g:TypeId→Option (List PD)):Nat→List (Nat × TypeId)→Option (List PD)
 |_,[]=>some []
 |off,(o,t)::fs=>if o=off then(match g t with
  |some l=>if P.cellsOf t=l.length then(fieldsT P g (off+l.length) fs).map (l ++ ·) else none
  |none=>none) else none
def pdT(P:Program):Nat→TypeId→Option (List PD)
 |0,_=>none
 |f+1,t=>match P.underlying t with
  |some (.int k)=>some [.cell (.int k)]
  |some .bool=>some [.cell .bool]
  |some .string=>some [.cell .str]
  |some (.slice e)=>match pdT P f e with
   |some l=>match mapOpt PD.ck l with
    |some cks=>if P.cellsOf e=cks.length∧0<cks.length then some [.rows cks] else none
    |none=>none
   |none=>none
  |some (.struct fs)=>match fieldsT P (pdT P f) 0 (fs.toList.map fun x=>(x.offset,x.type)) with
   |some l=>if P.cellsOf t=l.length then some l else none
   |none=>none
  |some (.array n e)=>if n≤100 then(match fieldsT P (pdT P f) 0 ((List.range n).map fun i=>(i*P.cellsOf e,e)) with
   |some l=>if P.cellsOf t=l.length then some l else none
   |none=>none) else none
  |_=>none
def okD:CK→D→Prop
 |.int k,.int n=>(Lit.int k n).wf=true
 |.bool,.bool _=>True
 |.str,.str s=>s.length≤maxLen
 |.sints k,.ints xs=>xs.length≤maxLen∧ ∀x ∈ xs,(Lit.int k x).wf=true
 |_,_=>False
def okInts(k:IntKind)(xs:List Int):Prop:=xs.length≤maxLen∧ ∀x ∈ xs,(Lit.int k x).wf=true
def okMat(k:IntKind)(w:Nat)(xss:List (List Int)):Prop:=xss.length≤maxLen∧ ∀xs ∈ xss,xs.length=w∧ ∀x ∈ xs,(Lit.int k x).wf=true
def okRecs(cks:List CK)(xss:List (List D)):Prop:=xss.length≤maxLen∧ ∀xs ∈ xss,All2 okD cks xs
def intsCk:List CK→Option (IntKind × Nat)
 |.int k::l=>if l.all (· == .int k) then some (k,l.length) else none
 |_=>none
def OpenR(cks:List CK)(P:SV→Prop):Prop:=
 match intsCk cks with
 |some (k,0)=> ∃xs:List Int,okInts k xs∧P (.data (.ints k xs))
 |some (k,w+1)=> ∃xss:List (List Int),okMat k (w+2) xss∧P (.data (.mat k (w+2) xss))
 |none=> ∃xss:List (List D),okRecs cks xss∧P (.data (.recs cks xss))
def Open1:PD→(SV→Prop)→Prop
 |.cell (.int k),P=> ∃n:Int,(Lit.int k n).wf=true∧P (.int k n)
 |.cell .bool,P=> ∃b:Bool,P (.bool b)
 |.cell .str,P=> ∃s:List UInt8,s.length≤maxLen∧P (.str s)
 |.cell (.sints k),P=> ∃xs:List Int,okInts k xs∧P (.data (.ints k xs))
 |.cell (.smat _ _),_=>False
 |.rows cks,P=>OpenR cks P
def Opens:List PD→(List SV→Prop)→Prop
 |[],P=>P []
 |d::l,P=>Open1 d fun s=>Opens l fun r=>P (s::r)
theorem OpenR.mono{cks:List CK}{P Q:SV→Prop}(H: ∀s,P s→Q s)(h:OpenR cks P):OpenR cks Q:=by
 unfold OpenR at h ⊢
 cases hc:intsCk cks with
 |none=>rw[hc] at h;obtain⟨n,h1,h2⟩:=h;exact⟨n,h1,H _ h2⟩
 |some p=>
  obtain⟨k,w⟩:=p
  rw[hc] at h
  cases w with
  |zero=>obtain⟨n,h1,h2⟩:=h;exact⟨n,h1,H _ h2⟩
  |succ w=>obtain⟨n,h1,h2⟩:=h;exact⟨n,h1,H _ h2⟩
theorem OpenR.const{cks:List CK}{X:Prop}(h:OpenR cks fun _=>X):X:=by
 unfold OpenR at h
 cases hc:intsCk cks with
 |none=>rw[hc] at h;obtain⟨n,h1,h2⟩:=h;exact h2
 |some p=>
  obtain⟨k,w⟩:=p
  rw[hc] at h
  cases w with
  |zero=>obtain⟨n,h1,h2⟩:=h;exact h2
  |succ w=>obtain⟨n,h1,h2⟩:=h;exact h2
theorem Open1.const{X:Prop}: ∀{d:PD},(Open1 d fun _=>X)→X
 |.cell (.int _),⟨_,_,h⟩=>h
 |.cell .bool,⟨_,h⟩=>h
 |.cell .str,⟨_,_,h⟩=>h
 |.cell (.sints _),⟨_,_,h⟩=>h
 |.cell (.smat _ _),h=>h.elim
 |.rows _,h=>OpenR.const h
theorem Open1.mono{P Q:SV→Prop}(H: ∀s,P s→Q s): ∀{d:PD},Open1 d P→Open1 d Q
 |.cell (.int _),⟨n,h1,h2⟩=>⟨n,h1,H _ h2⟩
 |.cell .bool,⟨n,h2⟩=>⟨n,H _ h2⟩
 |.cell .str,⟨n,h1,h2⟩=>⟨n,h1,H _ h2⟩
 |.cell (.sints _),⟨n,h1,h2⟩=>⟨n,h1,H _ h2⟩
 |.cell (.smat _ _),h=>h.elim
 |.rows _,h=>OpenR.mono H h
theorem Opens.const{X:Prop}: ∀{l:List PD},(Opens l fun _=>X)→X
 |[],h=>h
 |_::_,h=>Open1.const (Open1.mono (fun _ h=>Opens.const h) h)
theorem Opens.mono: ∀{l:List PD} {P Q:List SV→Prop},(∀r,P r→Q r)→Opens l P→Opens l Q
 |[],_,_,H,h=>H _ h
 |_::_,_,_,H,h=>Open1.mono (fun _ h=>Opens.mono (fun _ hr=>H _ hr) h) h
theorem Opens.append: ∀{l l':List PD} {P:List SV→Prop},Opens l (fun r=>Opens l' fun r'=>P (r++r'))→Opens (l++l') P
 |[],_,_,h=>h
 |_::_,_,_,h=>Open1.mono (fun _ h=>Opens.append h) h
section
variable {H:Type} {enc:TypeId × Value→H} {P:Program} {w:World} {base:Nat} {held:Bool} {m:Nat→Prop}
theorem ck_of{d:PD}{c:CK}{u:Value}(hc:d.ck=some c)(h:Open1 d fun s=>DenS w m [] s u): ∃x,DenC w m c x u∧okD c x:=by
 cases d with
 |cell c'=>
  cases hc
  cases c with
  |int k=>obtain⟨n,h1,h2⟩:=h;exact⟨.int n,h2,h1⟩
  |bool=>obtain⟨n,h2⟩:=h;exact⟨.bool n,h2,trivial⟩
  |str=>obtain⟨n,h1,h2⟩:=h;exact⟨.str n,h2,h1⟩
  |sints k=>
   obtain⟨xs,h1,a,cap,e,h3,h4,h5⟩:=h
   refine⟨.ints xs,⟨a,cap,e,h3,h4,?_⟩,h1⟩
   rcases h5 with h5|⟨ad,e2,h6,h7,h8⟩
   ·exact .inl (List.eq_nil_of_length_eq_zero h5)
   ·exact .inr ⟨ad,e2,h6,h7,h8⟩
  |smat k w=>exact h.elim
 |rows cks=>
  have hk: ∃k,cks=[.int k]∧c= .sints k:=by
   unfold PD.ck at hc
   split at hc
   ·rename_i he;cases he
   ·rename_i k he;cases he;cases hc;exact⟨k,rfl,rfl⟩
   ·cases hc
  obtain⟨k,rfl,rfl⟩:=hk
  obtain⟨xs,h1,a,cap,e,h3,h4,h5⟩: ∃xs:List Int,okInts k xs∧DenS w m [] (.data (.ints k xs)) u:=h
  refine⟨.ints xs,⟨a,cap,e,h3,h4,?_⟩,h1⟩
  rcases h5 with h5|⟨ad,e2,h6,h7,h8⟩
  ·exact .inl (List.eq_nil_of_length_eq_zero h5)
  ·exact .inr ⟨ad,e2,h6,h7,h8⟩
theorem cks_of: ∀{l:List PD} {cks:List CK} {cs:List Value},mapOpt PD.ck l=some cks→Opens l (fun r=>All2 (DenS w m []) r cs)→
  ∃ds:List D,All2 okD cks ds∧cs.length=cks.length∧ ∀(j:Nat) (c:CK),cks[j]? = some c→ ∃u,cs[j]? = some u∧DenC w m c (ds.getD j (.int 0)) u
 |[],cks,cs,h,ho=>by
  simp only[mapOpt,Option.some.injEq] at h
  subst h
  cases cs with
  |nil=>exact⟨[],trivial,rfl,fun j c hj=>by simp at hj⟩
  |cons _ _=>exact ho.elim
 |d::l,cks,cs,h,ho=>by
  unfold mapOpt at h
  cases hd:d.ck with
  |none=>rw[hd] at h;cases hm:mapOpt PD.ck l<;>rw[hm] at h<;>cases h
  |some c=>
   rw[hd] at h
   cases hm:mapOpt PD.ck l with
   |none=>rw[hm] at h;cases h
   |some cks'=>
    rw[hm] at h
    cases h
    cases cs with
    |nil=>exact(Opens.const (l:=d::l) ho).elim
    |cons u cs=>
     have h1:Open1 d fun s=>DenS w m [] s u:=Open1.mono (fun s hs=>Opens.const (Opens.mono (fun _ hr=>hr.1) hs)) ho
     have h2:Opens l fun r=>All2 (DenS w m []) r cs:=Open1.const (d:=d) (Open1.mono (fun s hs=>hs.mono fun r hr=>hr.2) ho)
     obtain⟨x,hx1,hx2⟩:=ck_of hd h1
     obtain⟨ds,h4,h5,h6⟩:=cks_of hm h2
     refine⟨x::ds,⟨hx2,h4⟩,by simp[h5],fun j c' hj=> ?_⟩
     cases j with
     |zero=>simp at hj;subst hj;exact⟨u,rfl,hx1⟩
     |succ j=>simp at hj;obtain⟨u',h7,h8⟩:=h6 j c' hj;exact⟨u',by simpa using h7,by simpa using h8⟩
theorem All2_okD_length{cks:List CK}{ds:List D}(h:All2 okD cks ds):ds.length=cks.length:=h.length.symm
theorem okD_ints{k:IntKind}: ∀{l:List CK} {ds:List D},l.all (· == .int k)=true→All2 okD l ds→(∀x ∈ ds.map D.toInt,(Lit.int k x).wf=true)
 |[],[],_,_,x,hx=>by simp at hx
 |[],_::_,_,h,_,_=>h.elim
 |_::_,[],_,h,_,_=>h.elim
 |c::l,d::ds,ha,h,x,hx=>by
  simp only[List.all_cons,Bool.and_eq_true,beq_iff_eq] at ha
  obtain⟨rfl,ha⟩:=ha
  simp only[List.map_cons,List.mem_cons] at hx
  rcases hx with rfl|hx
  ·have:=h.1
   cases d<;>simp only[okD] at this
   exact this
  ·exact okD_ints ha h.2 x hx
theorem rows_of{cks:List CK}{u:Value}{n cap:Nat}{a:Option Addr}(hu:u= .slice a n cap)(h1:n≤cap)(h2:cap≤maxLen)(hw:0<cks.length)
  (h:n=0∨ ∃ad,a=some ad∧ad.block<w.heap.size∧¬m ad.block∧ ∀i,i<n→ ∃ds:List D,All2 okD cks ds∧ ∀(c:Nat) (ck:CK),cks[c]? = some ck→ ∃v,w.cell? (ad.add (i*cks.length+c))=some v∧DenC w m ck (ds.getD c (.int 0)) v):
  OpenR cks fun s=>DenS w m [] s u:=by
 obtain⟨xss,hlen,hok,hcells⟩: ∃xss:List (List D),xss.length=n∧(∀xs ∈ xss,All2 okD cks xs)∧(n=0∨ ∃ad,a=some ad∧ad.block<w.heap.size∧¬m ad.block∧
   RowCells w m (fun j=>w.cell? (ad.add j)) (.recs cks xss)):=by
  rcases h with h|⟨ad,ha,hb,hm,h⟩
  ·exact⟨[],h.symm,fun xs hx=>by simp at hx,.inl h⟩
  ·obtain⟨xss,hl,hx⟩:=exists_list n h
   refine⟨xss,hl,fun xs hxs=> ?_,.inr ⟨ad,ha,hb,hm,fun i xs hi c ck hc=> ?_⟩⟩
   ·obtain⟨i,hi⟩:=List.getElem?_of_mem hxs
    exact(hx i xs hi).1
   ·exact(hx i xs hi).2 c ck hc
 have hn:n≤maxLen:=by omega
 unfold OpenR
 split
 ·rename_i k hk
  have hc:cks=[.int k]:=by
   unfold intsCk at hk
   split at hk
   ·rename_i k' l
    split at hk
    ·simp only[Option.some.injEq,Prod.mk.injEq] at hk
     obtain⟨rfl,h0⟩:=hk
     rw[List.eq_nil_of_length_eq_zero h0]
    ·cases hk
   ·cases hk
  subst hc
  refine⟨xss.map fun xs=>(xs.getD 0 (.int 0)).toInt,⟨by simp;omega,fun x hx=> ?_⟩,a,cap,by rw[hu];simp[Row.count,hlen],by simp[Row.count,hlen];exact h1,h2,?_⟩
  ·simp only[List.mem_map] at hx
   obtain⟨xs,hxs,rfl⟩:=hx
   have:=hok xs hxs
   match xs,this with
   |[d],this=>
    have h3:=this.1
    cases d<;>simp only[okD] at h3
    exact h3
  ·rcases hcells with h0|⟨ad,ha,hb,hm,hc⟩
   ·exact .inl (by simp[Row.count,hlen,h0])
   ·refine .inr ⟨ad,ha,hb,hm,fun i x hx=> ?_⟩
    rw[List.getElem?_map] at hx
    cases hxs:xss[i]? with
    |none=>rw[hxs] at hx;simp at hx
    |some xs=>
     rw[hxs] at hx
     simp only[Option.map_some,Option.some.injEq] at hx
     subst hx
     obtain⟨v,hv,hd⟩:=hc i xs hxs 0 (.int k) rfl
     have e:v= .int k _:=hd
     rw[e] at hv
     simpa using hv
 ·rename_i k wd hk
  have hc:cks.all (· == .int k)=true∧cks.length=wd+2:=by
   unfold intsCk at hk
   split at hk
   ·rename_i k' l
    split at hk
    ·rename_i hall
     simp only[Option.some.injEq,Prod.mk.injEq] at hk
     obtain⟨rfl,h0⟩:=hk
     simp only[List.all_cons,beq_self_eq_true,Bool.true_and,List.length_cons]
     exact⟨hall,by omega⟩
    ·cases hk
   ·cases hk
  refine⟨xss.map fun xs=>xs.map D.toInt,⟨by simp;omega,fun x hx=> ?_⟩,a,cap,by rw[hu];simp[Row.count,hlen],by simp[Row.count,hlen];exact h1,h2,?_⟩
  ·simp only[List.mem_map] at hx
   obtain⟨xs,hxs,rfl⟩:=hx
   exact⟨by simp[All2_okD_length (hok xs hxs),hc.2],okD_ints hc.1 (hok xs hxs)⟩
  ·rcases hcells with h0|⟨ad,ha,hb,hm,hcl⟩
   ·exact .inl (by simp[Row.count,hlen,h0])
   ·refine .inr ⟨ad,ha,hb,hm,fun i x hx c hcw=> ?_⟩
    rw[List.getElem?_map] at hx
    cases hxs:xss[i]? with
    |none=>rw[hxs] at hx;simp at hx
    |some xs=>
     rw[hxs] at hx
     simp only[Option.map_some,Option.some.injEq] at hx
     subst hx
     have hcl':c<cks.length:=by omega
     have hck:cks[c]? = some (.int k):=by
      rw[List.getElem?_eq_getElem hcl']
      have:=List.all_eq_true.1 hc.1 _ (List.getElem_mem hcl')
      rw[beq_iff_eq] at this
      rw[this]
     obtain⟨v,hv,hd⟩:=hcl i xs hxs c (.int k) hck
     have e:v= .int k (xs.getD c (.int 0)).toInt:=hd
     have hxl:c<xs.length:=by rw[All2_okD_length (hok xs (List.mem_of_getElem? hxs))];exact hcl'
     rw[e,hc.2] at hv
     rw[hv]
     congr 2
     simp[List.getD,List.getElem?_eq_getElem hxl]
 ·refine⟨xss,⟨by omega,hok⟩,a,cap,by rw[hu];simp[Row.count,hlen],by simp[Row.count,hlen];exact h1,h2,?_⟩
  rcases hcells with h0|⟨ad,ha,hb,hm,hc⟩
  ·exact .inl (by simp[Row.count,hlen,h0])
  ·exact .inr ⟨ad,ha,hb,hm,hc⟩
end
end Go.Ev
namespace Go.Ev
open Go Go.RowKit Go.ChangeShapes Go.WideShapes
variable [Glob]
theorem cell_lt{w:World}{a:Addr}{v:Value}(h:w.cell? a=some v):a.block<w.heap.size:=by
 rcases Nat.lt_or_ge a.block w.heap.size with hl|hl
 ·exact hl
 ·exfalso
  unfold World.cell? at h
  have e:w.heap[a.block]? = none:=Array.getElem?_eq_none hl
  rw[e] at h
  simp at h
section
variable {H:Type} {enc:TypeId × Value→H} {P:Program} {w:World} {base:Nat} {held:Bool} {m:Nat→Prop}
theorem fields_open{g:TypeId→Option (List PD)}{cs:List Value}: ∀(fs:List (Nat × TypeId)) (off:Nat) {l:List PD},fieldsT P g off fs=some l→
  (∀(j o:Nat) (t:TypeId),fs[j]? = some (o,t)→ ∀l',g t=some l'→Opens l' fun r=>All2 (DenS w m []) r ((cs.drop o).take (P.cellsOf t)))→cs.length=off+l.length→
  Opens l fun r=>All2 (DenS w m []) r (cs.drop off)
 |[],off,l,h,_,hlen=>by
  simp only[fieldsT,Option.some.injEq] at h
  subst h
  simp only[List.length_nil,Nat.add_zero] at hlen
  show All2 _ [] _
  rw[List.drop_eq_nil_of_le (by omega)]
  trivial
 |(o,t)::fs,off,l,h,H,hlen=>by
  unfold fieldsT at h
  split at h
  case isFalse=>cases h
  rename_i ho
  subst ho
  split at h
  case h_2=>cases h
  rename_i l1 hg
  split at h
  case isFalse=>cases h
  rename_i hc
  cases hr:fieldsT P g (o+l1.length) fs with
  |none=>rw[hr] at h;cases h
  |some l2=>
   rw[hr] at h
   simp only[Option.map_some,Option.some.injEq] at h
   subst h
   rw[List.length_append] at hlen
   have h1:=H 0 o t rfl l1 hg
   have h2:=fields_open fs (o+l1.length) hr (fun j o' t' hj=>H (j+1) o' t' hj) (by omega)
   refine Opens.append (h1.mono fun r hr1=>h2.mono fun r' hr2=> ?_)
   have:=hr1.append hr2
   rw[hc,← List.drop_drop,List.take_append_drop] at this
   exact this
theorem open_pd(hm: ∀b,¬m b): ∀(f:Nat) {t:TypeId} {l:List PD} {fuel:Nat} {cs:List Value} {x:DataW H × List MemPlace},pdT P f t=some l→
  DataW.trod enc P w base (fun _=>true) held fuel t cs=some x→Opens l fun r=>All2 (DenS w m []) r cs
 |0,_,_,_,_,_,h,_=>by cases h
 |f+1,t,l,fuel,cs,x,h,hx=>by
  unfold pdT at h
  split at h
  ·rename_i k hu
   cases h
   obtain⟨n,rfl,_,hw⟩:=DataW.trod_int hu hx
   exact⟨n,hw,rfl,trivial⟩
  ·rename_i hu
   cases h
   obtain⟨b,rfl,_⟩:=DataW.trod_bool hu hx
   exact⟨b,rfl,trivial⟩
  ·rename_i hu
   cases h
   obtain⟨s,rfl,_,hs⟩:=DataW.trod_string hu hx
   exact⟨s.data.toList,by rw[Array.length_toList];exact hs,by show Value.string s= .string ⟨s.data.toList.toArray⟩;rw[Array.toArray_toList],trivial⟩
  ·rename_i e hu
   split at h
   case h_2=>cases h
   rename_i l' hl'
   split at h
   case h_2=>cases h
   rename_i cks hcks
   split at h
   case isFalse=>cases h
   rename_i hc
   obtain⟨hce,hpos⟩:=hc
   cases h
   rcases Go.Deep.open_slice hu hx with⟨rfl,_⟩|⟨a,len,cap,mm,n,Dt,Pl,rfl,hb,hl,hmx,hmm,_,hi⟩
   ·exact OpenR.mono (P:=fun s=>DenS w m [] s (.slice none 0 0)) (Q:=fun s=>DenS w m [] s (.slice none 0 0)∧True) (fun s hs=>⟨hs,trivial⟩) (rows_of (w:=w) (m:=m) (cks:=cks) (u:= .slice none 0 0) (n:=0) (cap:=0) (a:=none) rfl (Nat.le_refl _) (Nat.zero_le _) hpos (.inl rfl))
   ·have hle:len≤mm:=by rw[hmm];split<;>omega
    have hel: ∀i,i<len→ ∃ds:List D,All2 okD cks ds∧ ∀(c:Nat) (ck:CK),cks[c]? = some ck→ ∃v,w.cell? (a.add (i*cks.length+c))=some v∧DenC w m ck (ds.getD c (.int 0)) v:=by
     intro i hil
     obtain⟨cs',h1,h2⟩:=hi i (by omega)
     obtain⟨ds,h3,h4,h5⟩:=cks_of hcks (open_pd hm f hl' h2)
     refine⟨ds,h3,fun c ck hck=> ?_⟩
     obtain⟨v,h6,h7⟩:=h5 c ck hck
     obtain⟨_,_,hat⟩:=World.cells?_some h1
     have hcl:c<P.cellsOf e:=by rw[hce];exact(List.getElem?_eq_some_iff.1 hck).1
     have:=hat c hcl
     rw[Go.Ev.add_add,hce] at this
     exact⟨v,this.trans h6,h7⟩
    refine OpenR.mono (P:=fun s=>DenS w m [] s (.slice (some a) len cap)) (Q:=fun s=>DenS w m [] s (.slice (some a) len cap)∧True) (fun s hs=>⟨hs,trivial⟩) (rows_of (w:=w) (m:=m) (cks:=cks) (u:= .slice (some a) len cap) (n:=len) (cap:=cap) (a:=some a) rfl hl hmx hpos ?_)
    rcases Nat.eq_zero_or_pos len with h0|h0
    ·exact .inl h0
    ·refine .inr ⟨a,rfl,?_,hm _,hel⟩
     obtain⟨ds,_,h5⟩:=hel 0 h0
     obtain⟨v,h6,_⟩:=h5 0 _ (List.getElem?_eq_getElem hpos)
     have:=cell_lt h6
     rwa [add_block] at this
  ·rename_i fs hu
   split at h
   case h_2=>cases h
   rename_i l' hf
   split at h
   case isFalse=>cases h
   rename_i hc
   cases h
   obtain⟨xs,n,_,_,hlen,hxl,hat⟩:=DataW.trod_struct hu hx
   have:=fields_open (w:=w) (m:=m) (cs:=cs) _ 0 hf (fun j o t' hj l' hg=>by
    rw[List.getElem?_map] at hj
    cases hfj:fs.toList[j]? with
    |none=>rw[hfj] at hj;cases hj
    |some fd=>
     rw[hfj] at hj
     simp only[Option.map_some,Option.some.injEq,Prod.mk.injEq] at hj
     obtain⟨rfl,rfl⟩:=hj
     have hfa:fs[j]? = some fd:=by simpa using hfj
     have h1:=hat j fd hfa
     have hjl:j<xs.length:=by rw[hxl];exact(Array.getElem?_eq_some_iff.1 hfa).1
     rw[List.getElem?_eq_getElem hjl] at h1
     exact open_pd hm f hg h1) (by omega)
   simpa using this
  ·rename_i n e hu
   split at h
   case isFalse=>cases h
   split at h
   case h_2=>cases h
   rename_i l' hf
   split at h
   case isFalse=>cases h
   rename_i hc
   cases h
   obtain⟨xs,n',_,_,hlen,hxl,hat⟩:=DataW.trod_array hu hx
   have:=fields_open (w:=w) (m:=m) (cs:=cs) _ 0 hf (fun j o t' hj l' hg=>by
    rw[List.getElem?_map] at hj
    rcases Nat.lt_or_ge j n with hjn|hjn
    ·rw[List.getElem?_range hjn] at hj
     simp only[Option.map_some,Option.some.injEq,Prod.mk.injEq] at hj
     obtain⟨rfl,rfl⟩:=hj
     have h1:=hat j hjn
     rw[List.getElem?_eq_getElem (by omega)] at h1
     exact open_pd hm f hg h1
    ·rw[List.getElem?_eq_none (by simpa using hjn)] at hj
     cases hj) (by omega)
   simpa using this
  ·cases h
def argAV:Bool→List SV→AV
 |false,[s]=> .one s
 |_,l=> .agg l
theorem open_arg(hm: ∀b,¬m b){f b0:Nat}{t:TypeId}{v:Value}{d:DataW H}{p:List MemPlace}{l:List PD}{agg:Bool}(hok:Value.okWide P w .any b0 t v)(h:DataW.Trod enc P w base (fun _=>true) held t v d p)
  (hl:pdT P f t=some l) (ha:aggT P t=some agg):Opens l fun r=>Den w m [] (argAV agg r) v:=by
 obtain⟨fuel,hx⟩:=h
 have ho:=open_pd hm f hl hx
 cases agg with
 |true=>
  have: ∃cs,v= .agg cs:=by
   unfold Value.okWide at hok
   unfold aggT at ha
   cases hu:P.underlying t with
   |none=>rw[hu] at ha;cases ha
   |some td=>
    rw[hu] at ha hok
    cases td<;>first|(simp at ha;done)|(obtain⟨cs,h,_⟩:=hok;exact⟨cs,h⟩)
  obtain⟨cs,rfl⟩:=this
  exact ho.mono fun r hr=>⟨cs.toList,by simp,hr⟩
 |false=>
  have hv:v.cells = #[v]:=by
   unfold aggT at ha
   cases f with
   |zero=>cases hl
   |succ f=>
    unfold pdT at hl
    split at hl
    ·rename_i k hu;obtain⟨n,rfl⟩:=okWide_int hu hok;rfl
    ·rename_i hu;obtain⟨n,rfl⟩:=okWide_bool hu hok;rfl
    ·rename_i hu;obtain⟨n,rfl⟩:=okWide_string hu hok;rfl
    ·rename_i e hu;obtain⟨n,_,_,rfl⟩:=okWide_slice hu hok;rfl
    ·rename_i fs hu;rw[hu] at ha;simp at ha
    ·rename_i fs e hu;rw[hu] at ha;simp at ha
    ·cases hl
  rw[hv] at ho
  refine ho.mono fun r hr=> ?_
  match r,hr with
  |[s],hr=>exact hr.1
def argsT(P:Program):List TypeId→Option (List (Bool × List PD))
 |[]=>some []
 |t::ts=>match aggT P t,pdT P 8 t,argsT P ts with
  |some a,some l,some r=>some ((a,l)::r)
  |_,_,_=>none
def OpensA:List (Bool × List PD)→(List AV→Prop)→Prop
 |[],Q=>Q []
 |(agg,l)::r,Q=>Opens l fun s=>OpensA r fun as=>Q (argAV agg s::as)
theorem OpensA.mono: ∀{l:List (Bool × List PD)} {P Q:List AV→Prop},(∀r,P r→Q r)→OpensA l P→OpensA l Q
 |[],_,_,H,h=>H _ h
 |(_,_)::_,_,_,H,h=>Opens.mono (fun _ h=>OpensA.mono (fun _ hr=>H _ hr) h) h
theorem open_all(hm: ∀b,¬m b): ∀{ts:List TypeId} {vs:List Value} {ds:List (DataW H)} {p:List MemPlace} {ls:List (Bool × List PD)},argsT P ts=some ls→DataW.TrodAll enc P w base (fun _=>true) held ts vs ds p→
  (∀(j:Nat) t v,ts[j]? = some t→vs[j]? = some v→ ∃b0,Value.okWide P w .any b0 t v)→OpensA ls fun as=>All2 (Den w m []) as vs
 |[],[],[],_,ls,h,_,_=>by cases h;trivial
 |t::ts,v::vs,d::ds,p,ls,h,hA,hok=>by
  unfold argsT at h
  split at h
  case h_2=>cases h
  rename_i a l r ha hl hr
  cases h
  obtain⟨p1,q1,h1,h2,_⟩:=hA
  obtain⟨b0,hok0⟩:=hok 0 t v rfl rfl
  have o1:=open_arg hm hok0 h1 hl ha
  have o2:=open_all hm hr h2 fun j t v ht hv=>hok (j+1) t v ht hv
  exact o1.mono fun s hs=>o2.mono fun as has=>⟨hs,has⟩
 |[],[],_::_,_,_,_,h,_=>h.elim
 |[],_::_,_,_,_,_,h,_=>h.elim
 |_::_,[],_,_,_,_,h,_=>h.elim
 |_::_,_::_,[],_,_,_,h,_=>h.elim
theorem below_all{P:Program}(hl:laidOutB P=true){W W':World}(hb:Below W.heap.size W W'): ∀{ts:List TypeId} {vs:List Value} {ds:List (DataW H)} {p:List MemPlace},(∀t ∈ ts,(P.readableRec t&&decide (t<P.types.size))=true)→
  DataW.TrodAll enc P W 0 (fun _=>true) true ts vs ds p→(∀x ∈ p,x.block<W.heap.size)→DataW.TrodAll enc P W' 0 (fun b=>decide (b<W.heap.size)) true ts vs ds p
 |[],[],[],_,_,h,_=>h
 |t::ts,v::vs,d::ds,p,hr,hA,hlt=>by
  obtain⟨p1,q1,h1,h2,rfl⟩:=hA
  have ht:=hr t (by simp)
  simp only[Bool.and_eq_true,decide_eq_true_eq] at ht
  exact⟨p1,q1,Below.trod hl ht.1 ht.2 h1 hb fun x hx=>hlt x (by simp[hx]),below_all hl hb (fun t ht=>hr t (by simp[ht])) h2 fun x hx=>hlt x (by simp[hx]),rfl⟩
 |[],[],_::_,_,_,h,_=>h.elim
 |[],_::_,_,_,_,h,_=>h.elim
 |_::_,[],_,_,_,h,_=>h.elim
 |_::_,_::_,[],_,_,h,_=>h.elim
end
section
variable {H:Type} {enc:TypeId × Value→H}
theorem law_calls{P:Program}{f:FuncId}{fn:Func}{s:ChangeSpec}{S:Spec}{shapes:List (Bool × List PD)}{bt:TypeId}(laid:laidOutB P=true)
  (hread: ∀t ∈ fn.params.toList,(P.readableRec t&&decide (t<P.types.size))=true) (hres:fn.resultTypes = #[bt]) (hbt:P.underlying bt=some .bool) (hvars:s.vars=[])
  (hspec: ∀ds:List (DataW H),ds.length=fn.params.size→s.fn H (ds++[])={ results:=[.lit (.bool true)],args:=ds }) (hS:SpecOK P f S) (hshape:argsT P fn.params.toList=some shapes)
  (hopen: ∀Q:List AV→Prop,OpensA shapes Q→ ∃as,Q as∧S as [] fun a _=>a= .one (.bool true))
  (W:World) (base:Nat) (args:Array Value) (ds gs:List (DataW H)) (before:List MemPlace)
  (hval: ∀(j:Nat) t v,fn.params[j]? = some t→args[j]? = some v→Value.okWide P W .any base t v) (hW:DataW.Whole enc P fn.params.toList s.vars false W args.toList ds gs before) (hglob:GlobOK (Mut (fun _=>False) [] []) W):
  Calls P f args W fun e W'=> ∃v,e= .returned v∧s.post enc P fn false true false false W args v W':=by
 have hlt:=hW.lt
 have hW':=hW
 obtain⟨p,q,hA,hV,rfl,_,_⟩:=hW
 rw[hvars] at hV
 obtain⟨rfl,rfl⟩:=trodVars_none hV
 simp only[List.append_nil] at hW' hlt
 have hm: ∀b,¬Mut (fun _=>False) [] [] b:=by
  rintro b (h|⟨id,_,_,_,h,_⟩)
  ·exact h
  ·simp at h
 have ho:=open_all (m:=Mut (fun _=>False) [] []) hm hshape hA fun j t v ht hv=>⟨base,hval j t v (by simpa using ht) (by simpa using hv)⟩
 obtain⟨as,has,hSa⟩:=hopen _ ho
 have hc:=hS.sound as [] _ hSa (fun _=>False) [] args.toList W ⟨rfl,fun id b g n h=>by simp at h,fun id b g n k h=>by simp at h,fun i j b b' g g' n n' k h=>by simp at h,hglob⟩ (fun b h=>h.elim) has
 rw[Array.toArray_toList] at hc
 refine hc.mono ?_
 rintro e W' ⟨v,a,σ',ρ',rfl,rfl,I,K,hd⟩
 have hv:v= .bool true:=hd
 subst hv
 have hb:Below W.heap.size W W':=⟨I.os,I.tape,I.output,I.size,fun b hb=>I.blk b hb (by rintro ⟨id,_,_,_,h,_⟩;simp at h)⟩
 have hlen:ds.length=fn.params.size:=by
  have: ∀(ts:List TypeId) (vs:List Value) (ds:List (DataW H)) (p:List MemPlace),DataW.TrodAll enc P W 0 (fun _=>true) true ts vs ds p→ds.length=ts.length:=by
   intro ts
   induction ts with
   |nil=>intro vs ds p h;cases vs<;>cases ds<;>first|rfl|exact h.elim
   |cons t ts ih=>
    intro vs ds p h
    cases vs with
    |nil=>cases ds<;>exact h.elim
    |cons v vs=>
     cases ds with
     |nil=>exact h.elim
     |cons d ds=>
      obtain⟨_,_,_,h2,_⟩:=h
      simp[ih _ _ _ h2]
  simpa using this _ _ _ _ hA
 have es:=hspec ds hlen
 refine⟨_,rfl,ds,[],p,[],p,[],hW',?_,?_,?_,hb.frame _,fun h=>by cases h⟩
 ·rw[es,hres]
  exact trodAll_mk1 (shut_bool hbt _)
 ·rw[es]
  exact below_all laid hb hread hA hlt
 ·rw[es,hvars]
  rfl
end
end Go.Ev
