/-
  Part of the proof that TopClickOnly holds.
-/
import Derived.Test.YtgkngjjnpiheoaaT05
import Derived.Lib.AppendZerosOnto
set_option linter.unusedVariables false
set_option linter.unusedSimpArgs false
set_option linter.unusedSectionVars false
namespace Go.Ev
open Go Go.RowKit
variable [Glob]
section
variable {F:Nat→Prop} {E:Env} {w0 w:World} {m0:Nat→Prop} {ρ0 ρ:List (Nat × Nat)} {s:St}
theorem condPos{c:Bool}{p:Prop}(h:cond c p False):c=true∧p:=by cases c;exact h.elim;exact⟨rfl,h⟩
theorem append_room{P:Program}(w:World)(t ty e t':TypeId)(i:TypeInfo)(ht:P.underlying t=some (.slice e))(hi:P.info? e=some i)
  (g sLen sCap:Nat) (cur:Array Value) (hg:w.heap[g]? = some (.cells cur t' (0,0)))
  (a:Addr) (m c:Nat) (news:List Value) (hl:news.length=m*i.size) (hnews: ∀j u,news[j]? = some u→w.cell? (a.add j)=some u) (h1: ∀u ∈ news,u.oneCell'=true)
  (hroom:sLen+m≤sCap) (hfit:sLen*i.size+news.length≤cur.size):
  (Builtin.append_ #[t,t] ty #[.slice (some ⟨g,0,none⟩) sLen sCap,.slice (some a) m c]).run P w=
   .ok (.slice (some ⟨g,0,none⟩) (sLen+m) sCap) (w.setRow g (cur.toList.take (sLen*i.size)++news++cur.toList.drop (sLen*i.size+news.length)).toArray):=by
 have hf:=run_firstCells_some (P:=P) w i.size m a m c news hl hnews
 have hst:=run_storeCells_at P g (sLen*i.size) t' news 0 cur w hg (by simpa using hfit) h1
 simp only[Nat.add_zero] at hst
 simp[Builtin.append_,run_underlying ht,sizeOf,typeInfo,hi,Builtin.lenOf,hroom,hf,Addr.add_lit,hst]
theorem cells_list{m:Nat→Prop}{l:List SV}{arr:Array Value}(h: ∀(j:Nat) (sv:SV),l[j]? = some sv→ ∃u,arr[j]? = some u∧DenS w m ρ sv u):
  ∃vs:List Value,vs.length=l.length∧All2 (DenS w m ρ) l vs∧ ∀(j:Nat) (v:Value),vs[j]? = some v→arr[j]? = some v:=by
 have HH: ∀o,o<l.length→ ∃v,arr[o]? = some v∧ ∃sv,l[o]? = some sv∧DenS w m ρ sv v:=by
  intro o ho
  obtain⟨v,hv,hd⟩:=h o l[o] (List.getElem?_eq_getElem ho)
  exact⟨v,hv,_,List.getElem?_eq_getElem ho,hd⟩
 obtain⟨vs,hvl,hvs⟩:=exists_list l.length HH
 refine⟨vs,hvl,All2.mk (by omega) fun o a b ha hb=> ?_,fun j v hj=>(hvs j v hj).1⟩
 obtain⟨_,sv,hs,hd⟩:=hvs o b hb
 rw[ha] at hs
 cases hs
 exact hd
theorem all2_one{m:Nat→Prop}{l:List SV}{vs:List Value}(h:All2 (DenS w m ρ) l vs): ∀u ∈ vs,u.oneCell'=true:=by
 intro u hu
 obtain⟨j,hj⟩:=List.getElem?_of_mem hu
 have hl:=h.length
 have hlt:j<l.length:=by rw[hl];exact(List.getElem?_eq_some_iff.1 hj).1
 obtain⟨b,hb,hd⟩:=h.get (List.getElem?_eq_getElem hlt)
 rw[hj] at hb
 cases hb
 exact hd.one
theorem cellsOf_sound(H:HeapOk F ρ s.σ w){x:SV}{l:List SV}{vx:Value}(h:cellsOf s.σ x=some l)(hx:DenS w (Mut F ρ s.σ) ρ x vx):
  ∃id g cap arr t,x= .own id 1∧s.σ[id]? = some (.cells l)∧ρ[id]? = some (g,l.length)∧vx= .slice (some ⟨g,0,none⟩) l.length cap∧l.length≤cap∧cap≤maxLen∧w.heap[g]? = some (.cells arr t (0,0))∧cap≤arr.size∧
   ∀(j:Nat) (sv:SV),l[j]? = some sv→ ∃u,arr[j]? = some u∧DenS w (Mut F ρ s.σ) ρ sv u:=by
 unfold cellsOf at h
 split at h
 ·rename_i id wd
  split at h
  ·rename_i l' hb
   cases h
   obtain⟨g,n,cap,t,sz,hg,rfl,h1,h2,h3,h4⟩:=hx
   obtain⟨⟨arr,t',ha,hc⟩,hn,hlt⟩:=H.live id _ g n hb hg rfl
   simp only[Blk.count] at hn
   subst hn
   unfold World.shape? at h3
   rw[ha] at h3
   simp at h3
   exact⟨id,g,cap,arr,t',rfl,hb,hg,rfl,h1,h2,ha,by omega,hc⟩
  ·cases h
 ·cases h
theorem evAppendC_sound(I:Inv F w0 m0 ρ0 ρ s.σ w){t ty:TypeId}{x y:SV}{l':List SV}{vx vy:Value}{k:AV→List Blk→Prop}(h:evAppendC E.P s.σ t x l' k)(hl':cellsOf s.σ y=some l')
  (hx:DenS w (Mut F ρ s.σ) ρ x vx) (hy:DenS w (Mut F ρ s.σ) ρ y vy):
  ∃v w',(Builtin.append_ #[t,t] ty #[vx,vy]).run E.P w= .ok v w'∧Done F w0 m0 ρ0 ρ s.σ w False k v w':=by
 unfold evAppendC at h
 split at h
 case h_2=>exact h.elim
 rename_i e ht
 split at h
 case h_2=>exact h.elim
 rename_i by_ z0 hb hs hz
 obtain⟨i,zv,hi,hib,his,hiz,hzc⟩:=info_of hb hs hz
 have hzs:zv.cells.size=1:=by have:=svcs_length hzc;simpa using this
 obtain⟨idy,gy,capy,arry,ty',rfl,hby,hgy,rfl,y1,y2,hay,_,hcy⟩:=cellsOf_sound I.heap hl' hy
 obtain⟨news,hn1,hn2,hn3⟩:=cells_list hcy
 have hnews: ∀(j:Nat) (v:Value),news[j]? = some v→w.cell? ((⟨gy,0,none⟩:Addr).add j)=some v:=by
  intro j v hj
  rw[lit_add,cell_of_row w gy _ arry ty' (0,0) hay]
  simpa using hn3 j v hj
 have hnl:news.length=l'.length*i.size:=by rw[hn1,his];omega
 have h1:=all2_one hn2
 split at h
 ·
  cases hx
  obtain⟨hc,h⟩:=condPos h
  simp only[decide_eq_true_eq] at hc
  cases l' with
  |nil=>
   refine⟨.slice none 0 0,w,?_,_,_,ρ,h,I,⟨[],by simp⟩,Keep.refl _ _,rfl,False.elim⟩
   simp[Builtin.append_,run_underlying ht,sizeOf,typeInfo,hi,Builtin.lenOf,Builtin.firstCells,loadCells,loadCellsFrom]
  |cons a l=>
   dsimp only at h
   have hrun:=run_append_nil (P:=E.P) w t ty e i zv ht hi hiz ⟨gy,0,none⟩ (a::l).length capy news hnl hnews (by simp) (by omega) (by rw[hib];omega)
   generalize hL:a::l=L at *
   have hge:=grownCap_ge w L.length 0 e
   have hcm:grownCap w L.length 0 e≤maxLen:=grownCap_le_maxLen w L.length 0 e (by unfold maxLen;omega)
   obtain⟨K,hI⟩:=grow (n:=L.length) (b:= .cells L) (w':=w.drew.alloc (.cells (news.toArray++Builtin.zeroCells zv.cells (grownCap w L.length 0 e-L.length)) e)) I rfl (fun i b h _=>h) rfl rfl rfl rfl trivial
   have hg:(w.drew.alloc (.cells (news.toArray++Builtin.zeroCells zv.cells (grownCap w L.length 0 e-L.length)) e)).heap[w.heap.size]? = some (.cells (news.toArray++Builtin.zeroCells zv.cells (grownCap w L.length 0 e-L.length)) e (0,0)):=heap_alloc_new w.drew _
   refine⟨_,_,hrun,_,_,_,h,hI ⟨_,e,hg,fun j sv hj=> ?_⟩ rfl,⟨_,rfl⟩,K,⟨w.heap.size,L.length,_,e,_,?_,rfl,hge,hcm,by unfold World.shape?;rw[hg],?_⟩,False.elim⟩
   ·obtain⟨u,hu,hd⟩:=hn2.get hj
    have hjl:=(List.getElem?_eq_some_iff.1 hu).1
    exact⟨u,by simp only[Array.getElem?_append,List.size_toArray,hjl,if_true];rw[List.getElem?_toArray];exact hu,hd.keep K fun _ _ h=>getElem?_append_some h⟩
   ·rw[← I.heap.len];simp
   ·simp only[Array.size_append,List.size_toArray,size_zeroCells,hzs,hn1]
    omega
 ·rename_i id wd
  split at h
  case h_2=>exact h.elim
  rename_i l hl
  obtain⟨hc,h⟩:=condPos h
  simp only[decide_eq_true_eq] at hc
  obtain⟨id',g,cap,arr,t',he,hbk,hg,rfl,x1,x2,ha,hcs,hco⟩:=cellsOf_sound I.heap hl hx
  simp only[SV.own.injEq] at he
  obtain⟨rfl,rfl⟩:=he
  obtain⟨olds,ho1,ho2,ho3⟩:=cells_list hco
  have hol:olds.length=l.length*i.size:=by rw[ho1,his];omega
  have hll:(l++l').length=l.length+l'.length:=List.length_append
  have hel: ∀(w':World) (m':Nat→Prop) (ρ':List (Nat × Nat)) (arr':Array Value),Keep (Mut F ρ s.σ) m' w w'→(∀(id:Nat) (g:Nat × Nat),ρ[id]? = some g→ρ'[id]? = some g)→(∀(j:Nat) (v:Value),(olds++news)[j]? = some v→arr'[j]? = some v)→
    ∀(j:Nat) (sv:SV),(l++l')[j]? = some sv→ ∃u,arr'[j]? = some u∧DenS w' m' ρ' sv u:=by
   intro w' m' ρ' arr' K hρ hA j sv hj
   obtain⟨u,hu,hd⟩:=(ho2.append hn2).get hj
   exact⟨u,hA j u hu,hd.keep K hρ⟩
  by_cases hroom:l.length+l'.length≤cap
  ·have hfit:l.length*i.size+news.length≤arr.size:=by rw[his,hn1];omega
   have hrun:(Builtin.append_ #[t,t] ty #[.slice (some ⟨g,0,none⟩) l.length cap,.slice (some ⟨gy,0,none⟩) l'.length capy]).run E.P w= .ok (.slice (some ⟨g,0,none⟩) (l.length+l'.length) cap) (w.setRow g (splice arr (l.length*i.size) news)):=
    append_room (P:=E.P) w t ty e t' i ht hi g l.length cap arr ha ⟨gy,0,none⟩ l'.length capy news hnl hnews h1 hroom hfit
   have hg':=setRow_heap w g arr (splice arr (l.length*i.size) news) t' (0,0) ha
   obtain⟨K,hI⟩:=reuse (b':= .cells (l++l')) (n':=(l++l').length) (w':=w.setRow g (splice arr (l.length*i.size) news)) I hbk rfl hg (fun k hk=>setRow_other w g k _ hk) (by simp) (by
    unfold World.shape?;rw[hg',ha];simp[splice_size hfit]) rfl rfl rfl trivial
   refine⟨_,_,hrun,_,_,_,h,hI ⟨_,t',hg',hel _ _ _ _ K (fun _ _ h=>getElem?_append_some h) fun j v hj=> ?_⟩ rfl,⟨_,rfl⟩,K,⟨g,(l++l').length,cap,t',arr.size,?_,by rw[hll],by omega,x2,?_,by omega⟩,False.elim⟩
   ·rcases Nat.lt_or_ge j olds.length with hj'|hj'
    ·rw[List.getElem?_append_left hj'] at hj
     rw[splice_out hfit (.inl (by rw[← hol];exact hj'))]
     exact ho3 j v hj
    ·rw[List.getElem?_append_right hj'] at hj
     have hjj:=(List.getElem?_eq_some_iff.1 hj).1
     have:=splice_in hfit (j:=j-olds.length) hjj
     rw[hj] at this
     rw[← this]
     congr 1
     omega
   ·rw[← I.heap.len];simp
   ·unfold World.shape?;rw[hg'];simp[splice_size hfit]
  ·have holds: ∀(j:Nat) (v:Value),olds[j]? = some v→w.cell? ((⟨g,0,none⟩:Addr).add j)=some v:=by
    intro j v hj
    rw[lit_add,cell_of_row w g _ arr t' (0,0) ha]
    simpa using ho3 j v hj
   have hrun:=run_append_grow (P:=E.P) w t ty e i zv ht hi hiz ⟨g,0,none⟩ l.length cap olds hol holds ⟨gy,0,none⟩ l'.length capy news hnl hnews (by omega) (by omega) (growslice_fits (by omega) (by rw[hib,← hll];exact hc.1))
   have hge:=grownCap_ge w (l.length+l'.length) cap e
   have hcm':grownCap w (l.length+l'.length) cap e≤maxLen:=grownCap_le_maxLen w _ cap e (by unfold maxLen;omega)
   obtain⟨K,hI⟩:=grow (σ1:=s.σ.set id .dead) (n:=(l++l').length) (b:= .cells (l++l')) (w':=w.drew.alloc (.cells (olds.toArray++news.toArray++Builtin.zeroCells zv.cells (grownCap w (l.length+l'.length) cap e-(l.length+l'.length))) e)) I (by simp) (fun j b hj hl=>by
    by_cases hji:j=id
    ·subst hji
     rw[List.getElem?_set_self (List.getElem?_eq_some_iff.1 hbk).1] at hj
     cases hj
     simp[Blk.live] at hl
    ·rwa [List.getElem?_set_ne (fun e=>hji e.symm)] at hj) rfl rfl rfl rfl trivial
   have hg':(w.drew.alloc (.cells (olds.toArray++news.toArray++Builtin.zeroCells zv.cells (grownCap w (l.length+l'.length) cap e-(l.length+l'.length))) e)).heap[w.heap.size]? = some (.cells (olds.toArray++news.toArray++Builtin.zeroCells zv.cells (grownCap w (l.length+l'.length) cap e-(l.length+l'.length))) e (0,0)):=heap_alloc_new w.drew _
   refine⟨_,_,hrun,_,_,_,h,hI ⟨_,e,hg',hel _ _ _ _ K (fun _ _ h=>getElem?_append_some h) fun j v hj=> ?_⟩ rfl,⟨_,rfl⟩,K,⟨w.heap.size,(l++l').length,_,e,_,?_,by rw[hll],by omega,hcm',by unfold World.shape?;rw[hg'],?_⟩,False.elim⟩
   ·have hjl:=(List.getElem?_eq_some_iff.1 hj).1
    rw[Array.getElem?_append_left (by simpa using hjl)]
    simpa using hj
   ·rw[← I.heap.len];simp
   ·simp only[Array.size_append,List.size_toArray,size_zeroCells,hzs,ho1,hn1]
    omega
 ·exact h.elim
theorem splN_sound{a:Int}{k:Nat→Prop}: ∀(n j:Nat),splN a k n j→ ∃i:Nat,a=i∧k i
 |0,_,h=>h.elim
 |n+1,j,h=>by
  simp only[splN] at h
  cases he:a==(j:Int) with
  |true=>rw[he] at h;exact⟨j,by simpa using he,h⟩
  |false=>rw[he] at h;exact splN_sound n (j+1) h
theorem evMakeC_sound(I:Inv F w0 m0 ρ0 ρ s.σ w){t e:TypeId}{by_ n:Nat}{z0:SV}{b:Int}{ka kb:IntKind}{k:AV→List Blk→Prop}(hu:E.P.underlying t=some (.slice e))(hb:bytesT E.P e=some by_)(hz:zeroT E.P e=some [z0])(hs:sizeT E.P e=some 1)
  (hab:(n:Int)≤b) (hbb:b*(by_:Int)≤140737488355328∧b≤140737488355328)
  (hk:k (.one (.own s.σ.length 1)) (s.σ++[.cells (List.replicate n z0)])):
  ∃u w',(Instr.makeSlice t (.int ka (n:Int)) (.int kb b)).run E.P w= .ok u w'∧Done F w0 m0 ρ0 ρ s.σ w True k u w':=by
 obtain⟨i,zv,hi,hib,his,hiz,hzc⟩:=info_of hb hs hz
 have hall: ∀(w:World) (m:Nat→Prop) (ρ:List (Nat × Nat)),∃v,zv.cells.toList=[v]∧DenS w m ρ z0 v:=by
  intro w m ρ
  have:=svcs_sound (w:=w) (m:=m) (ρ:=ρ) hzc
  match hh:zv.cells.toList,this with
  |[v],h=>exact⟨v,rfl,h.1⟩
  |[],h=>exact h.elim
  |_::_::_,h=>exact h.2.elim
 have hrun:=run_make (P:=E.P) w t e i zv hu hi hiz ka kb n b (by omega) hab (by rw[hib];have:=hbb.1;rw[Int.mul_comm] at this;omega) (by omega)
 obtain⟨K,hI⟩:=grow (n:=n) (b:= .cells (List.replicate n z0)) (w':=w.alloc (.cells (madeCells zv.cells (b.toNat*i.size)) e)) I rfl (fun i b h _=>h) rfl rfl rfl rfl trivial
 have hg:(w.alloc (.cells (madeCells zv.cells (b.toNat*i.size)) e)).heap[w.heap.size]? = some (.cells (madeCells zv.cells (b.toNat*i.size)) e (0,0)):=heap_alloc_new w _
 refine⟨_,_,hrun,_,_,_,hk,hI ⟨_,e,hg,fun j sv hj=> ?_⟩ (by simp[Blk.count]),⟨_,rfl⟩,K,⟨w.heap.size,n,b.toNat,e,_,?_,by simp,by omega,by unfold maxLen;omega,by unfold World.shape?;rw[hg],?_⟩,fun _=>⟨⟨_,rfl⟩,Prefix_push rfl⟩⟩
 ·have hjn:=(List.getElem?_eq_some_iff.1 hj).1
  simp only[List.length_replicate] at hjn
  rw[List.getElem?_replicate,if_pos hjn] at hj
  cases hj
  obtain⟨v,hv,hd⟩:=hall _ _ _
  refine⟨v,?_,hd⟩
  have hsz:zv.cells.size=1:=by rw[← Array.length_toList,hv];rfl
  simp only[madeCells,Array.getElem?_map]
  rw[Array.getElem?_range,if_pos (by rw[his];omega)]
  simp only[Option.map_some,Option.some.injEq,hsz,Nat.mod_one]
  rw[getElem!_pos zv.cells 0 (by omega)]
  have:zv.cells.toList[0]? = some v:=by rw[hv];rfl
  rw[Array.getElem?_toList,Array.getElem?_eq_getElem (show 0<zv.cells.size by omega)] at this
  exact Option.some.inj this
 ·rw[← I.heap.len];simp
 ·rw[size_madeCells,his]
  omega
theorem zeroCells_get{z:Array Value}{n:Nat}{v:Value}(hz:z.toList=[v]):Builtin.zeroCells z n=(List.replicate n v).toArray:=by
 have hs:z.size=1:=by rw[← Array.length_toList,hz];rfl
 apply Array.ext_getElem?
 intro i
 simp only[Builtin.zeroCells,hs,Nat.mul_one,Array.getElem?_map,List.getElem?_toArray,List.getElem?_replicate,Nat.mod_one]
 rw[Array.getElem?_range]
 have h0:z[0]! = v:=by
  rw[getElem!_pos z 0 (by omega)]
  have:z.toList[0]? = some v:=by rw[hz];rfl
  rw[Array.getElem?_toList,Array.getElem?_eq_getElem (show 0<z.size by omega)] at this
  exact Option.some.inj this
 by_cases hi:i<n
 ·simp[hi,h0]
 ·simp[hi]
theorem append_zeros_room{P:Program}(w:World)(t tn ty e t':TypeId)(i:TypeInfo)(z:Value)(kq kn:IntKind)(ht:P.underlying t=some (.slice e))(htn:P.underlying tn=some (.int kn))(hi:P.info? e=some i)(hz:i.zero=some z)
  (g sLen sCap:Nat) (cur:Array Value) (hg:w.heap[g]? = some (.cells cur t' (0,0))) (n:Nat) (h0:0<n) (his:i.size=1) {v:Value} (hzv:z.cells.toList=[v]) (hv:v.oneCell'=true)
  (hroom:sLen+n≤sCap) (hfit:sLen+n≤cur.size) (h48:n*i.bytes≤281474976710656) (h63:n≤140737488355328):
  (Builtin.append_ #[t,tn] ty #[.slice (some ⟨g,0,none⟩) sLen sCap,.int kq n]).run P w=
   .ok (.slice (some ⟨g,0,none⟩) (sLen+n) sCap) (w.setRow g (splice cur sLen (List.replicate n v))):=by
 have hw:IntKind.i64.wrap (n:Int)=n:=by rw[IntKind.wrap_i64];omega
 have hneg:¬((n:Int)<0):=by omega
 have h48i:¬(281474976710656<(n:Int)*(i.bytes:Int)):=by
  rw[← Int.natCast_mul]
  omega
 have hns:¬(n*i.size=0):=Nat.mul_ne_zero (by omega) (by omega)
 have hst:=run_storeCells_at P g sLen t' (List.replicate n v) 0 cur w hg (by simpa using hfit) (fun u hu=>by rw[(List.mem_replicate.1 hu).2];exact hv)
 simp only[Nat.add_zero] at hst
 have hzc:=zeroCells_get (n:=n) hzv
 simp[Builtin.append_,run_underlying ht,run_underlying htn,sizeOf,typeInfo,zeroValue,hi,hz,asInt,asIntOf,hw,hneg,h48i,hroom,hns,hzc,his,Addr.add_lit,hst,splice]
 omega
theorem evAppendZ_sound(I:Inv F w0 m0 ρ0 ρ s.σ w){t u ty:TypeId}{x:SV}{n:Int}{kq ku:IntKind}{vx:Value}{k:AV→List Blk→Prop}(h:evAppendZ E.P s.σ t x n k)(hu:E.P.underlying u=some (.int ku))(hx:DenS w (Mut F ρ s.σ) ρ x vx):
  ∃v w',(Builtin.append_ #[t,u] ty #[vx,.int kq n]).run E.P w= .ok v w'∧Done F w0 m0 ρ0 ρ s.σ w False k v w':=by
 unfold evAppendZ at h
 split at h
 case h_2=>exact h.elim
 rename_i e ht
 split at h
 case h_2=>exact h.elim
 rename_i by_ kk hb hs hz
 obtain⟨i,zv,hi,hib,his,hiz,hzc⟩:=info_of hb hs hz
 have hzv:zv.cells.toList=[.int kk 0]:=by
  have:=svcs_sound (w:=w) (m:=fun _=>False) (ρ:=[]) hzc
  match hh:zv.cells.toList,this with
  |[v],h=>rw[show v= .int kk 0 from h.1]
  |[],h=>exact h.elim
  |_::_::_,h=>exact h.2.elim
 have hzs:zv.cells.size=1:=by rw[← Array.length_toList,hzv];rfl
 split at h
 ·cases hx
  obtain⟨hc,h⟩:=condPos h
  simp only[Bool.and_eq_true,decide_eq_true_eq] at hc
  obtain⟨c1,c2,c3⟩:=hc
  obtain⟨m,rfl⟩:=Int.eq_ofNat_of_zero_le (show 0≤n by omega)
  simp only[Int.toNat_natCast] at c2 c3 h
  have hrun:=Lib.run_append_nil_zeros (P:=E.P) w t u ty e i zv kq ku ht hu hi hiz m (by omega) (by omega) (by omega) (by rw[hib];omega)
  rw[zeroCells_get hzv] at hrun
  have hge:=grownCap_ge w m 0 e
  have hcm:grownCap w m 0 e≤maxLen:=grownCap_le_maxLen w m 0 e (by unfold maxLen;omega)
  generalize hZ:Builtin.zeroCells zv.cells (grownCap w m 0 e-m)=Z at hrun
  have hZs:Z.size=grownCap w m 0 e-m:=by rw[← hZ,size_zeroCells,hzs,Nat.mul_one]
  obtain⟨K,hI⟩:=grow (n:=m) (b:= .row e (.ints kk (List.replicate m 0))) (w':=w.drew.alloc (.cells ((List.replicate m (Value.int kk 0)).toArray++Z) e)) I rfl (fun i b h _=>h) rfl rfl rfl rfl trivial
  have hg:(w.drew.alloc (.cells ((List.replicate m (Value.int kk 0)).toArray++Z) e)).heap[w.heap.size]? = some (.cells ((List.replicate m (Value.int kk 0)).toArray++Z) e (0,0)):=heap_alloc_new w.drew _
  refine⟨_,_,hrun,_,_,_,h,hI ⟨_,hg,fun j y hj=> ?_⟩ (by simp[Blk.count,Row.count]),⟨_,rfl⟩,K,⟨w.heap.size,m,_,e,_,?_,rfl,hge,hcm,by unfold World.shape?;rw[hg],?_⟩,False.elim⟩
  ·have hjm:=(List.getElem?_eq_some_iff.1 hj).1
   simp only[List.length_replicate] at hjm
   rw[List.getElem?_replicate,if_pos hjm] at hj
   cases hj
   dsimp only
   rw[Array.getElem?_append_left (by simpa using hjm)]
   simp[hjm]
  ·rw[← I.heap.len];simp
  ·simp only[Array.size_append,List.size_toArray,List.length_replicate,hZs]
   omega
 ·rename_i id
  split at h
  case h_2=>exact h.elim
  rename_i t' kk' xs hbk
  split at h
  case isFalse=>exact h.elim
  rename_i htt
  obtain⟨rfl,rfl⟩:=htt
  obtain⟨hc,h⟩:=condPos h
  simp only[Bool.and_eq_true,decide_eq_true_eq] at hc
  obtain⟨c1,c2,c3⟩:=hc
  obtain⟨m,rfl⟩:=Int.eq_ofNat_of_zero_le (show 0≤n by omega)
  simp only[Int.toNat_natCast] at c2 c3 h
  obtain⟨g,n0,cap,ty2,sz',hg,rfl,hnc,hcm,hsh,hcs⟩:=hx
  obtain⟨⟨arr,ha,hrc⟩,hn,hlt⟩:=I.heap.live id _ g n0 hbk hg rfl
  simp only[Blk.count,Row.count] at hn
  subst hn
  have hsz':sz'=arr.size:=by
   unfold World.shape? at hsh
   rw[ha] at hsh
   simp at hsh
   exact hsh.2.symm
  subst hsz'
  have holds: ∀(j:Nat) (v:Value),(xs.map (Value.int kk'))[j]? = some v→arr[j]? = some v:=by
   intro j v hj
   rw[List.getElem?_map] at hj
   cases hxj:xs[j]? with
   |none=>rw[hxj] at hj;simp at hj
   |some y=>rw[hxj] at hj;simp at hj;subst hj;exact hrc j y hxj
  have hel: ∀(arr':Array Value),(∀(j:Nat) (v:Value),(xs.map (Value.int kk')++List.replicate m (Value.int kk' 0))[j]? = some v→arr'[j]? = some v)→ ∀(j:Nat) (y:Int),(xs++List.replicate m 0)[j]? = some y→arr'[j]? = some (.int kk' y):=by
   intro arr' hA j y hj
   refine hA j _ ?_
   rcases Nat.lt_or_ge j xs.length with h1|h1
   ·rw[List.getElem?_append_left h1] at hj
    rw[List.getElem?_append_left (by simpa using h1),List.getElem?_map,hj];rfl
   ·rw[List.getElem?_append_right h1] at hj
    have hjm:=(List.getElem?_eq_some_iff.1 hj).1
    simp only[List.length_replicate] at hjm
    rw[List.getElem?_replicate,if_pos hjm] at hj
    cases hj
    rw[List.getElem?_append_right (by simpa using h1),List.getElem?_replicate,if_pos (by simpa using hjm)]
  have hll:(xs++List.replicate m (0:Int)).length=xs.length+m:=by simp
  by_cases hroom:xs.length+m≤cap
  ·have hrun:=append_zeros_room (P:=E.P) w t u ty t' t' i zv kq ku ht hu hi hiz g xs.length cap arr ha m (by omega) his hzv rfl hroom (by omega) (by rw[hib];have:=Nat.add_mul xs.length m by_;omega) (by omega)
   have hfit:xs.length+(List.replicate m (Value.int kk' 0)).length≤arr.size:=by simp;omega
   have hg':=setRow_heap w g arr (splice arr xs.length (List.replicate m (Value.int kk' 0))) t' (0,0) ha
   obtain⟨K,hI⟩:=reuse (b':= .row t' (.ints kk' (xs++List.replicate m 0))) (n':=xs.length+m) (w':=w.setRow g (splice arr xs.length (List.replicate m (Value.int kk' 0)))) I hbk rfl hg (fun k hk=>setRow_other w g k _ hk) (by simp) (by
    unfold World.shape?;rw[hg',ha];simp[splice_size hfit]) rfl rfl rfl trivial
   refine⟨_,_,hrun,_,_,_,h,hI ⟨_,hg',hel _ fun j v hj=> ?_⟩ (by simp[Blk.count,Row.count]),⟨_,rfl⟩,K,⟨g,xs.length+m,cap,t',arr.size,?_,rfl,by omega,hcm,?_,hcs⟩,False.elim⟩
   ·rcases Nat.lt_or_ge j xs.length with h1|h1
    ·rw[List.getElem?_append_left (by simpa using h1)] at hj
     rw[splice_out hfit (.inl h1)]
     exact holds j v hj
    ·rw[List.getElem?_append_right (by simpa using h1)] at hj
     have hjj:=(List.getElem?_eq_some_iff.1 hj).1
     have:=splice_in hfit (j:=j-(xs.map (Value.int kk')).length) hjj
     rw[hj] at this
     rw[← this]
     congr 1
     simp
     omega
   ·rw[← I.heap.len];simp
   ·unfold World.shape?;rw[hg'];simp[splice_size hfit]
  ·have hold:(Builtin.firstCells i.size xs.length (.slice (some ⟨g,0,none⟩) xs.length cap)).run E.P w.drew= .ok (xs.map (Value.int kk')).toArray w.drew:=
    run_firstCells_some (P:=E.P) w.drew i.size xs.length ⟨g,0,none⟩ xs.length cap (xs.map (Value.int kk')) (by simp[his]) (fun j v hj=>by
     rw[lit_add,cell_of_row w.drew g _ arr t' (0,0) ha]
     simpa using holds j v hj)
   have hrun:=Lib.run_append_grow_zeros (P:=E.P) w t u ty t' i zv kq ku ht hu hi hiz (some ⟨g,0,none⟩) xs.length cap _ hold m (by omega) (by omega) (by omega) (by omega) (by rw[hib];have:=Nat.add_mul xs.length m by_;omega) (growslice_fits (by omega) (by rw[hib];exact c2))
   rw[zeroCells_get (n:=m) hzv] at hrun
   have hge:=grownCap_ge w (xs.length+m) cap t'
   have hcm':grownCap w (xs.length+m) cap t'≤maxLen:=grownCap_le_maxLen w _ cap t' (by unfold maxLen;omega)
   generalize hZ:Builtin.zeroCells zv.cells (grownCap w (xs.length+m) cap t'-(xs.length+m))=Z at hrun
   have hZs:Z.size=grownCap w (xs.length+m) cap t'-(xs.length+m):=by rw[← hZ,size_zeroCells,hzs,Nat.mul_one]
   obtain⟨K,hI⟩:=grow (σ1:=s.σ.set id .dead) (n:=xs.length+m) (b:= .row t' (.ints kk' (xs++List.replicate m 0))) (w':=w.drew.alloc (.cells ((xs.map (Value.int kk')).toArray++(List.replicate m (Value.int kk' 0)).toArray++Z) t')) I (by simp) (fun j b hj hl=>by
    by_cases hji:j=id
    ·subst hji
     rw[List.getElem?_set_self (List.getElem?_eq_some_iff.1 hbk).1] at hj
     cases hj
     simp[Blk.live] at hl
    ·rwa [List.getElem?_set_ne (fun e=>hji e.symm)] at hj) rfl rfl rfl rfl trivial
   have hg':(w.drew.alloc (.cells ((xs.map (Value.int kk')).toArray++(List.replicate m (Value.int kk' 0)).toArray++Z) t')).heap[w.heap.size]? = some (.cells ((xs.map (Value.int kk')).toArray++(List.replicate m (Value.int kk' 0)).toArray++Z) t' (0,0)):=heap_alloc_new w.drew _
   refine⟨_,_,hrun,_,_,_,h,hI ⟨_,hg',hel _ fun j v hj=> ?_⟩ (by simp[Blk.count,Row.count]),⟨_,rfl⟩,K,⟨w.heap.size,xs.length+m,_,t',_,?_,rfl,by omega,hcm',by unfold World.shape?;rw[hg'],?_⟩,False.elim⟩
   ·have hjl:=(List.getElem?_eq_some_iff.1 hj).1
    rw[Array.getElem?_append_left (by simpa using hjl),List.append_toArray,List.getElem?_toArray]
    exact hj
   ·rw[← I.heap.len];simp
   ·simp only[Array.size_append,List.size_toArray,List.length_map,List.length_replicate,hZs]
    omega
 ·exact h.elim
end
end Go.Ev
