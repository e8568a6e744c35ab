/-
  Part of the proof that TopTransferMended holds.
-/
import Derived.Test.YtmailpnpjcpodaaGreatDoorT21
set_option linter.unusedVariables false
set_option linter.unusedSimpArgs false
set_option linter.unusedSectionVars false
namespace Go.Ev
open Go Go.Proofs
attribute [local irreducible] evFn evBody evRound
set_option maxRecDepth 20000
theorem newsF_mem: ∀(N l:List (List Int)) (x:List Int),x ∈ newsF N l→x ∈ N∨x ∈ l
 |_,[],_,h=> .inl h
 |N,y::l,x,h=>by
  rcases newsF_mem _ l x h with h|h
  ·unfold nxG at h
   cases hk:kdG N y==0 with
   |true=>
    rw[hk,cond_true,List.mem_append] at h
    exact h.imp_right fun h=>by simp at h;simp[h]
   |false=>rw[hk,cond_false] at h;exact .inl h
  ·exact .inr (List.mem_cons_of_mem _ h)
theorem ownB_mem{l:List (List Int)}{ch:Int}{x:List Int}(h:x ∈ ownB l ch):x ∈ l∧x.getD 1 0=ch:=by
 unfold ownB chB at h
 rw[List.mem_filter] at h
 exact⟨(newsF_mem _ _ _ h.1).resolve_left (by simp),by simpa using h.2⟩
theorem kd_none{N:List (List Int)}{y:List Int}(h:kdG N y=0):N.find? (sameK y)=none∧sumB y=true:=by
 unfold kdG at h
 cases hs:sumB y with
 |false=>rw[hs] at h;cases h
 |true=>
  rw[hs,Bool.not_true,cond_false] at h
  cases hf:N.find? (sameK y) with
  |none=>exact⟨rfl,rfl⟩
  |some z=>
   rw[hf] at h
   dsimp only at h
   cases hz:z==y<;>rw[hz] at h<;>cases h
theorem chB_new{N:List (List Int)}{y:List Int}(h:N.find? (sameK y)=none): ∀x ∈ chB (y.getD 1 0) N,cnt x≠cnt y:=by
 intro x hx e
 unfold chB at hx
 rw[List.mem_filter] at hx
 have:=List.find?_eq_none.1 h x hx.1
 unfold sameK at this
 unfold cnt at e
 simp only[Bool.and_eq_true,beq_iff_eq,not_and] at this
 exact this (by simpa using hx.2) e
theorem aget_mapE(n:Int): ∀o:List (List Int),aget (mapE o) [n]=lkO o n
 |[]=>rfl
 |x::o=>by
  have ih:=aget_mapE n o
  unfold mapE at ih ⊢
  unfold lkO at ih ⊢
  rw[List.map_cons,aget,ih,List.find?_cons]
  have e:([n]==(entS x).1)=(cnt x==n):=by
   unfold entS cnt
   rw[Bool.eq_iff_iff]
   simp only[beq_iff_eq,List.cons.injEq,and_true]
   exact eq_comm
  rw[e]
  cases cnt x==n<;>rfl
theorem aset_mapE{c:Int}{v:List Int}: ∀{o:List (List Int)},(∀x ∈ o,cnt x≠c)→aset (mapE o) [c] v=mapE o++[([c],v)]
 |[],_=>rfl
 |x::o,h=>by
  have ih:=aset_mapE (v:=v) (o:=o) fun y hy=>h y (List.mem_cons_of_mem _ hy)
  unfold mapE at ih ⊢
  rw[List.map_cons,aset,ih]
  have e:([c]==(entS x).1)=false:=by
   have:=h x (List.mem_cons_self ..)
   unfold entS
   unfold cnt at this
   rw[beq_eq_false_iff_ne]
   intro e
   simp only[List.cons.injEq,and_true] at e
   exact this e.symm
  rw[e];rfl
theorem ahas_mapE(o:List (List Int))(c:Int):ahas (mapE o) [c]=(lkO o c).isSome:=by unfold ahas;rw[aget_mapE]
theorem foldmin: ∀(l:List (List Int)) (a:Int),l.foldl (fun a y=>if cnt y<a then cnt y else a) a≤a∧ ∀x ∈ l,l.foldl (fun a y=>if cnt y<a then cnt y else a) a≤cnt x
 |[],a=>⟨Int.le_refl _,fun x hx=>by simp at hx⟩
 |y::l,a=>by
  obtain⟨h1,h2⟩:=foldmin l (if cnt y<a then cnt y else a)
  rw[List.foldl_cons]
  have e:(if cnt y<a then cnt y else a)≤a∧(if cnt y<a then cnt y else a)≤cnt y:=by constructor<;>split<;>omega
  refine⟨Int.le_trans h1 e.1,fun x hx=> ?_⟩
  rcases List.mem_cons.1 hx with rfl|hx
  ·exact Int.le_trans h1 e.2
  ·exact h2 x hx
theorem foldmax: ∀(l:List (List Int)) (a:Int),a≤l.foldl (fun a y=>if cnt y>a then cnt y else a) a∧ ∀x ∈ l,cnt x≤l.foldl (fun a y=>if cnt y>a then cnt y else a) a
 |[],a=>⟨Int.le_refl _,fun x hx=>by simp at hx⟩
 |y::l,a=>by
  obtain⟨h1,h2⟩:=foldmax l (if cnt y>a then cnt y else a)
  rw[List.foldl_cons]
  have e:a≤(if cnt y>a then cnt y else a)∧cnt y≤(if cnt y>a then cnt y else a):=by constructor<;>split<;>omega
  refine⟨Int.le_trans e.1 h1,fun x hx=> ?_⟩
  rcases List.mem_cons.1 hx with rfl|hx
  ·exact Int.le_trans e.2 h1
  ·exact h2 x hx
theorem foldmin_mem: ∀(l:List (List Int)) (a:Int),l.foldl (fun a y=>if cnt y<a then cnt y else a) a=a∨ ∃x ∈ l,l.foldl (fun a y=>if cnt y<a then cnt y else a) a=cnt x
 |[],a=> .inl rfl
 |y::l,a=>by
  rw[List.foldl_cons]
  rcases foldmin_mem l (if cnt y<a then cnt y else a) with h|⟨x,hx,h⟩
  ·by_cases hy:cnt y<a
   ·rw[if_pos hy] at h ⊢;exact .inr ⟨y,List.mem_cons_self ..,h⟩
   ·rw[if_neg hy] at h ⊢;exact .inl h
  ·exact .inr ⟨x,List.mem_cons_of_mem _ hx,h⟩
theorem foldmax_mem: ∀(l:List (List Int)) (a:Int),l.foldl (fun a y=>if cnt y>a then cnt y else a) a=a∨ ∃x ∈ l,l.foldl (fun a y=>if cnt y>a then cnt y else a) a=cnt x
 |[],a=> .inl rfl
 |y::l,a=>by
  rw[List.foldl_cons]
  rcases foldmax_mem l (if cnt y>a then cnt y else a) with h|⟨x,hx,h⟩
  ·by_cases hy:cnt y>a
   ·rw[if_pos hy] at h ⊢;exact .inr ⟨y,List.mem_cons_self ..,h⟩
   ·rw[if_neg hy] at h ⊢;exact .inl h
  ·exact .inr ⟨x,List.mem_cons_of_mem _ hx,h⟩
theorem cmin_le{o:List (List Int)}{x:List Int}(h:x ∈ o):cmin o≤cnt x:=by
 cases o with
 |nil=>simp at h
 |cons y l=>
  rcases List.mem_cons.1 h with rfl|h
  ·exact(foldmin l _).1
  ·exact(foldmin l _).2 x h
theorem le_cmax{o:List (List Int)}{x:List Int}(h:x ∈ o):cnt x≤cmax o:=by
 cases o with
 |nil=>simp at h
 |cons y l=>
  rcases List.mem_cons.1 h with rfl|h
  ·exact(foldmax l _).1
  ·exact(foldmax l _).2 x h
theorem cmin_mem{o:List (List Int)}(h:o≠[]): ∃x ∈ o,cmin o=cnt x:=by
 cases o with
 |nil=>exact absurd rfl h
 |cons y l=>
  rcases foldmin_mem l (cnt y) with h|⟨x,hx,h⟩
  ·exact⟨y,List.mem_cons_self ..,h⟩
  ·exact⟨x,List.mem_cons_of_mem _ hx,h⟩
theorem cmax_mem{o:List (List Int)}(h:o≠[]): ∃x ∈ o,cmax o=cnt x:=by
 cases o with
 |nil=>exact absurd rfl h
 |cons y l=>
  rcases foldmax_mem l (cnt y) with h|⟨x,hx,h⟩
  ·exact⟨y,List.mem_cons_self ..,h⟩
  ·exact⟨x,List.mem_cons_of_mem _ hx,h⟩
theorem cmin_snoc{o:List (List Int)}(h:o≠[])(y:List Int):cmin (o++[y])=if cnt y<cmin o then cnt y else cmin o:=by
 cases o with
 |nil=>exact absurd rfl h
 |cons x l=>show(l++[y]).foldl _ (cnt x)=_;rw[List.foldl_append];rfl
theorem cmax_snoc{o:List (List Int)}(h:o≠[])(y:List Int):cmax (o++[y])=if cnt y>cmax o then cnt y else cmax o:=by
 cases o with
 |nil=>exact absurd rfl h
 |cons x l=>show(l++[y]).foldl _ (cnt x)=_;rw[List.foldl_append];rfl
theorem con_cnt{x:List Int}(h:conB x=true):0≤cnt x∧cnt x≤65535:=by
 unfold conB contentG withinG at h
 simp only[Bool.and_eq_true,decide_eq_true_eq] at h
 exact h.1.1
theorem chB_snoc(ch:Int)(N:List (List Int))(y:List Int):chB ch (N++[y])=bif y.getD 1 0==ch then chB ch N++[y] else chB ch N:=by
 unfold chB
 rw[List.filter_append,List.filter_cons]
 cases y.getD 1 0==ch<;>simp
theorem rokrcv_0:RangeOK Ercv 129 kdSq (rangePs (lb Tryz.f77 0)) (rangeAssign (lb Tryz.f77 0)) (rangeBody (lb Tryz.f77 0)) [3,4,6] rcGL:=by
 refine⟨okkd,fun x rest vs σ k h=> ?_,fun vs σ k h=> ?_⟩
 ·unfold rcGL at h
  split at h
  rotate_right
  ·exact h.elim
  rename_i ch z w a b M
  obtain⟨N,l,h1,⟨rfl,rfl,b1,b2,b3⟩,rfl,rfl,rfl,h⟩:=h
  obtain⟨y,l',rfl,rfl,rfl⟩:=kdI_cons h1
  rw[List.all_cons,Bool.and_eq_true] at b1 b3
  simp only[List.length_cons] at b2
  unfold it2
  rw[exrcvr _ _ _ _ _ _ _ _ _ _ _ _ _ _ _ _ _ _ _]
  have same:chB ch (nxG N y)=chB ch N→rcGL (kdI (nxG N y) l') [.one (.ptr 0 1 0 0),.one (.ptr 1 1 0 0),.one (.ptr 2 1 0 0)] [.cells [.int .i64 ch],.cells [.any,.int .i64 0,.int .i64 0],.cells [.mapv 3,.int .i64 (cmin (chB ch N)),.int .i64 (cmax (chB ch N))],.map 0 8 (mapE (chB ch N))] k:=by
   intro e
   refine⟨nxG N y,l',rfl,⟨rfl,rfl,b1.2,?_,b3.2⟩,by rw[e],by rw[e],by rw[e],h⟩
   unfold nxG
   cases kdG N y==0<;>simp<;>omega
  have hq:(kdG N y != 0)= !(kdG N y==0):=rfl
  rw[hq]
  cases hk:kdG N y==0 with
  |false=>
   rw[Bool.not_false,cond_true]
   exact same (by unfold nxG;rw[hk,cond_false])
  |true=>
   rw[Bool.not_true,cond_false]
   have en:nxG N y=N++[y]:=by unfold nxG;rw[hk,cond_true]
   have hc:(y.getD 1 0 != ch)= !(y.getD 1 0==ch):=rfl
   rw[hc]
   cases hch:y.getD 1 0==ch with
   |false=>
    rw[Bool.not_false,cond_true]
    exact same (by rw[en,chB_snoc,hch,cond_false])
   |true=>
    rw[Bool.not_true,cond_false]
    have hch':=beq_iff_eq.1 hch
    subst hch'
    obtain⟨f1,f2⟩:=kd_none (beq_iff_eq.1 hk)
    have hne:=chB_new f1
    have eo:chB (y.getD 1 0) (nxG N y)=chB (y.getD 1 0) N++[y]:=by rw[en,chB_snoc,beq_self_eq_true,cond_true]
    have em:aset (mapE (chB (y.getD 1 0) N)) [y.getD 0 0] [y.getD 2 0,y.getD 3 0,y.getD 4 0,y.getD 5 0,y.getD 6 0,y.getD 7 0,y.getD 8 0,y.getD 9 0]=mapE (chB (y.getD 1 0) (nxG N y)):=by
     rw[eo,aset_mapE (c:=y.getD 0 0) hne]
     unfold mapE
     rw[List.map_append];rfl
    rw[em]
    have hlen:(mapE (chB (y.getD 1 0) N)).length=(chB (y.getD 1 0) N).length:=by simp[mapE]
    rw[hlen]
    have hbd:(nxG N y).length+l'.length≤1000:=by rw[en];simp;omega
    cases ho:chB (y.getD 1 0) N with
    |nil=>
     rw[ho,List.nil_append] at eo
     simp only[List.length_nil,Int.natCast_zero,beq_self_eq_true,cond_true,ite_self]
     exact⟨nxG N y,l',rfl,⟨rfl,rfl,b1.2,hbd,b3.2⟩,rfl,by rw[eo];rfl,by rw[eo];rfl,h⟩
    |cons x o=>
     have e0:((((x::o).length:Nat):Int)==0)=false:=by simp;omega
     rw[e0,cond_false,← ho]
     refine⟨nxG N y,l',rfl,⟨rfl,rfl,b1.2,hbd,b3.2⟩,rfl,?_,?_,h⟩
     ·rw[eo,cmin_snoc (by rw[ho];simp)];rfl
     ·rw[eo,cmax_snoc (by rw[ho];simp)];rfl
 ·unfold rcGL at h
  split at h
  rotate_right
  ·exact h.elim
  rename_i ch z w a b M
  obtain⟨N,l,h1,⟨rfl,rfl,b1,b2,b3⟩,rfl,rfl,rfl,h⟩:=h
  have:=kdI_nil h1.symm
  subst this
  exact h
theorem rcE_zero{l:List (List Int)}{ch:Int}(h1:okBs l)(h:rcE l ch=0):bsE l=0∧l.all conB=true∧withinG ch 0 3=true∧ownB l ch≠[]∧cmax (ownB l ch)-cmin (ownB l ch)<60∧okSt (ownB l ch) (cmin (ownB l ch)) (cmax (ownB l ch)) (cmin (ownB l ch)) (mapE (ownB l ch)):=by
 unfold rcE at h
 cases hb:bsE l==0 with
 |false=>
  rw[hb,cond_false] at h
  rw[h] at hb
  cases hb
 |true=>
  rw[hb,cond_true] at h
  have hall:l.all conB=true:=by
   have:=beq_iff_eq.1 hb
   unfold bsE at this
   cases hd:decide ((l.length:Int)≤40) with
   |true=>
    rw[hd,cond_true] at this
    cases ha:l.all conB with
    |true=>rfl
    |false=>rw[ha] at this;cases this
   |false=>rw[hd] at this;cases this
  cases hw:withinG ch 0 3 with
  |false=>rw[hw] at h;cases h
  |true=>
   rw[hw,cond_true] at h
   unfold spanE at h
   cases ho:(ownB l ch).isEmpty with
   |true=>rw[ho] at h;cases h
   |false=>
    rw[ho,cond_false] at h
    have hne:ownB l ch≠[]:=by intro e;rw[e] at ho;cases ho
    cases hd:decide (cmax (ownB l ch)-cmin (ownB l ch)<60) with
    |false=>rw[hd] at h;cases h
    |true=>
     have hd':=of_decide_eq_true hd
     obtain⟨x,hx,ex⟩:=cmin_mem hne
     obtain⟨y,hy,ey⟩:=cmax_mem hne
     have hcx:=con_cnt (List.all_eq_true.1 hall x (ownB_mem hx).1)
     have hcy:=con_cnt (List.all_eq_true.1 hall y (ownB_mem hy).1)
     have hle:=cmin_le hy
     refine⟨beq_iff_eq.1 hb,hall,rfl,hne,hd',rfl,List.all_eq_true.2 fun z hz=>List.all_eq_true.1 h1.2 z (ownB_mem hz).1,by omega,by omega,by omega,hd',Int.le_refl _,by omega⟩
theorem okrcv:SpecOK Tryz.prog 77 recvS:=by
 refine specOK (n:=77) (m:=0) (lps:=[(1000006,.range 129 kdSq [3,4,6] rcGL)]) (.cons okbse (.cons ok93 (.cons ok69 (.cons okknd (.cons ok70 .nil))))) Tryz.func77 (by kernel_rfl) (by kernel_rfl) (theLoops (n:=1) (by kernel_rfl) fun i hi=> ?_) fun args σ K h=> ?_
 ·match i,hi with
  |0,_=>exact loopHyp_range (key:=1000006) (by kernel_rfl) (by kernel_rfl) rfl rokrcv_0
 unfold recvS at h
 split at h
 rotate_right
 ·exact h.elim
 rename_i l ch
 rw[exrcv l ch K]
 obtain⟨h1,h⟩:=h
 have hf:firstE [bsE l,bif withinG ch 0 3 then 0 else 2]=bif bsE l==0 then(bif withinG ch 0 3 then 0 else 2) else bsE l:=by
  simp only[firstE]
  cases hb:bsE l==0<;>cases hw:withinG ch 0 3<;>simp[bne,hb]
 refine And.intro h1 (And.intro (by simp) ?_)
 rw[hf]
 unfold rcE at h
 cases hb:bsE l==0 with
 |false=>
  rw[hb,cond_false] at h
  rw[cond_false,bne,hb,Bool.not_false,cond_true]
  rw[hb,cond_false] at h
  exact h 0 0 []
 |true=>
  rw[hb,cond_true] at h
  rw[cond_true]
  cases hw:withinG ch 0 3 with
  |false=>
   rw[hw,cond_false] at h
   exact h 0 0 []
  |true=>
   rw[hw,cond_true] at h
   have hall:l.all conB=true:=by
    have:=beq_iff_eq.1 hb
    unfold bsE at this
    cases hd:decide ((l.length:Int)≤40) with
    |true=>
     rw[hd,cond_true] at this
     cases ha:l.all conB with
     |true=>rfl
     |false=>rw[ha] at this;cases this
    |false=>rw[hd] at this;cases this
   show cond (decide (l.length≤1000)&&(l.all len11&&l.all conB)) _ False
   rw[decide_eq_true h1.1,h1.2,hall]
   refine⟨[],l,rfl,⟨rfl,rfl,h1.2,by simp;exact h1.1,hall⟩,rfl,rfl,rfl,by simp,?_⟩
   have eo:chB ch (newsF [] l)=ownB l ch:=rfl
   rw[eo]
   have hlen:(mapE (ownB l ch)).length=(ownB l ch).length:=by simp[mapE]
   rw[hlen]
   unfold spanE at h
   cases ho:ownB l ch with
   |nil=>
    rw[ho] at h
    exact h 0 0 []
   |cons x o=>
    have hne:ownB l ch≠[]:=by rw[ho];simp
    obtain⟨x',hx,ex⟩:=cmin_mem hne
    obtain⟨y,hy,ey⟩:=cmax_mem hne
    have hcx:=con_cnt (List.all_eq_true.1 hall x' (ownB_mem hx).1)
    have hcy:=con_cnt (List.all_eq_true.1 hall y (ownB_mem hy).1)
    rw[ho] at ex ey h
    have hw2:IntKind.i64.wrap (cmax (x::o)-cmin (x::o))=cmax (x::o)-cmin (x::o):=wrap_id (by omega) (by omega)
    rw[hw2]
    have hpos:decide ((((x::o).length:Nat):Int)>0)=true:=decide_eq_true (by simp only[List.length_cons];omega)
    rw[hpos,cond_true]
    rw[List.isEmpty_cons,cond_false] at h
    cases hd:decide (cmax (x::o)-cmin (x::o)<60) with
    |true=>rw[hd] at h;exact h
    |false=>rw[hd] at h;exact h _ _ _
theorem okSt_next{o:List (List Int)}{a b c:Int}{M:List (List Int × List Int)}(h:okSt o a b c M)(hc:c≤b):okSt o a b (c+1) M∧IntKind.i64.wrap (c+1)=c+1∧(b-c+1).toNat=(b-(c+1)+1).toNat+1∧(b+1-(c+1)).toNat<(b+1-c).toNat:=by
 obtain⟨h1,h2,h3,h4,h5,h6,h7,h8⟩:=h
 exact⟨⟨h1,h2,h3,h4,h5,h6,by omega,by omega⟩,wrap_id (by omega) (by omega),by omega,by omega⟩
theorem lokmis_0:LoopOK EmisF2 (lb Tryz.f27 0) [6,8,9] [8] misL:=by
 refine loopOK (.cons okrcv .nil) (noInner (by kernel_rfl)) (fun vs σ=>match vs,σ with
  |[.one (.ptr 0 1 0 0),.one .nil,.one (.int .i64 c)],[.cells [.mapv 1,.int .i64 _,.int .i64 b],.map 0 8 _]=>(b+1-c).toNat
  |[.one (.ptr 0 1 0 0),.one (.own 2 1),.one (.int .i64 c)],[.cells [.mapv 1,.int .i64 _,.int .i64 b],.map 0 8 _,.row 3 (.ints .i64 _)]=>(b+1-c).toNat
  |_,_=>0) fun vs σ k h=> ?_
 unfold misL at h
 split at h
 rotate_right
 ·exact h.elim
 ·rename_i c a b M
  rw[exmisl0a c a b M _]
  obtain⟨o,hok,h⟩:=h
  obtain⟨h1,h2,h3,h4,h5,h6,h7,h8⟩:=id hok
  subst h1
  by_cases hc:c≤b
  ·rw[decide_eq_true hc,cond_true,ahas_mapE]
   obtain⟨n1,n2,n3,n4⟩:=okSt_next hok hc
   rw[n2]
   rw[n3,misG] at h
   cases hs:(lkO o c).isSome with
   |true=>
    rw[hs,cond_true] at h
    exact⟨⟨o,n1,h⟩,n4⟩
   |false=>
    rw[hs,cond_false,List.isEmpty_cons,cond_false] at h
    exact⟨⟨o,⟨n1,by simp,by simp;omega⟩,h⟩,n4⟩
  ·rw[decide_eq_false hc,cond_false]
   have:(b-c+1).toNat=0:=by omega
   rw[this,misG] at h
   exact h
 ·rename_i c a b M S
  rw[exmisl0b c a b M S _]
  obtain⟨o,⟨hok,hS1,hS2⟩,h⟩:=h
  obtain⟨h1,h2,h3,h4,h5,h6,h7,h8⟩:=id hok
  subst h1
  by_cases hc:c≤b
  ·rw[decide_eq_true hc,cond_true,ahas_mapE]
   obtain⟨n1,n2,n3,n4⟩:=okSt_next hok hc
   rw[n2]
   rw[n3,misG] at h
   cases hs:(lkO o c).isSome with
   |true=>
    rw[hs,cond_true] at h
    exact⟨⟨o,⟨n1,hS1,by omega⟩,h⟩,n4⟩
   |false=>
    rw[hs,cond_false] at h
    have hl:(S++[c]).length=S.length+1:=by simp
    rw[Bool.not_false,cond_true,hl,decide_eq_true (by omega),cond_true]
    refine⟨⟨o,⟨n1,by rw[hl];omega,by rw[hl];omega⟩,?_⟩,n4⟩
    rw[List.append_assoc]
    exact h
  ·rw[decide_eq_false hc,cond_false]
   have:(b-c+1).toNat=0:=by omega
   rw[this,misG,List.append_nil] at h
   exact h
theorem okmis:SpecOK Tryz.prog 27 misS:=by
 refine specOK (n:=43) (m:=0) (lps:=[(6,.frm 2 [6,8,9] [8] misL)]) (.cons okrcv .nil) Tryz.func27 (by kernel_rfl) (by kernel_rfl) (theLoops (n:=1) (by kernel_rfl) fun i hi=> ?_) fun args σ K h=> ?_
 ·match i,hi with
  |0,_=>exact loopHyp_frm (E':=EmisF2) (key:=6) (m:=2) (by kernel_rfl) rfl rfl lokmis_0
 unfold misS at h
 split at h
 rotate_right
 ·exact h.elim
 rename_i l ch
 rw[exmis l ch K]
 obtain⟨h1,h⟩:=h
 refine And.intro h1 ?_
 cases h0:rcE l ch==0 with
 |false=>
  rw[h0,cond_false] at h
  rw[cond_false]
  intro a b M
  rw[bne,h0,Bool.not_false,cond_true]
  exact h
 |true=>
  rw[h0,cond_true] at h
  rw[cond_true]
  obtain⟨_,_,_,_,hsp,hok⟩:=rcE_zero h1 (beq_iff_eq.1 h0)
  exact⟨ownB l ch,hok,h⟩
theorem okmisD:SpecOK Tryz.prog 27 misDS:=by
 refine okmis.froze fun args σ K h=> ?_
 unfold misDS at h
 split at h
 rotate_right
 ·exact h.elim
 rename_i l ch
 obtain⟨h1,h⟩:=h
 refine⟨rfl,h1,?_⟩
 unfold msM at h
 cases h0:rcE l ch==0 with
 |false=>
  rw[h0] at h
  exact⟨.tup [.one (.data (.ints .i64 [])),.one (.int .i64 (rcE l ch))],⟨.inr ⟨.ints .i64 [],rfl,rfl⟩,rfl,trivial⟩,h⟩
 |true=>
  rw[h0] at h
  rw[cond_true]
  have e0:=beq_iff_eq.1 h0
  rw[e0] at h
  cases hg:misO (ownB l ch) with
  |nil=>
   rw[hg] at h
   exact⟨.tup [.one (.data (.ints .i64 [])),.one (.int .i64 0)],⟨.inr ⟨.ints .i64 [],rfl,rfl⟩,rfl,trivial⟩,h⟩
  |cons g G=>
   rw[hg] at h
   exact⟨.tup [.one (.data (.ints .i64 (g::G))),.one (.int .i64 0)],⟨⟨_,_,rfl,rfl,rfl⟩,rfl,trivial⟩,h⟩
end Go.Ev
namespace Go.Ev
open Go Go.Proofs
set_option maxRecDepth 20000
def refInvG(n:Int):Nat→Int→Int
 |0,out=>out
 |c+1,out=>refInvG n c (((out*out).tmod 65537*n).tmod 65537)
theorem modG_emod(n:Int):modG n=n%65537:=by
 unfold modG
 have h1:(n.tmod 65537+65537)=if 0≤n then n%65537+65537 else 65537-(-n)%65537:=by
  split
  ·rename_i h
   rw[Int.tmod_eq_emod_of_nonneg h]
  ·rename_i h
   have e:n.tmod 65537= -((-n).tmod 65537):=by rw[Int.neg_tmod,Int.neg_neg]
   rw[e,Int.tmod_eq_emod_of_nonneg (by omega)]
   omega
 rw[h1]
 split
 ·rw[Int.tmod_eq_emod_of_nonneg (by omega)]
  omega
 ·rw[Int.tmod_eq_emod_of_nonneg (by omega)]
  omega
theorem modG_small{n:Int}(h0:0≤n)(h1:n<65537):modG n=n:=by
 rw[modG_emod];omega
theorem emul(x y P:Int):(x%P*y)%P=(x*y)%P:=by rw[Int.mul_emod,Int.emod_emod,← Int.mul_emod]
theorem emul'(x y P:Int):(x*(y%P))%P=(x*y)%P:=by rw[Int.mul_emod,Int.emod_emod,← Int.mul_emod]
def sqI:Nat→Int→Int
 |0,s=>s
 |k+1,s=>sqI k (s*s%65537)
theorem inv_sim{a:Int}(ha:0≤a∧a<65537): ∀(k:Nat) (out sq:Int),(0≤out∧out<65537)→(0≤sq∧sq<65537)→(out*a)%65537=sq→
  invF out sq (2^k-1)=refInvG a k out∧(refInvG a k out*a)%65537=sqI k sq∧0≤refInvG a k out∧refInvG a k out<65537
 |0,out,sq,ho,_,h=>by
  rw[invF]
  exact⟨rfl,h,ho.1,ho.2⟩
 |k+1,out,sq,ho,hs,h=>by
  have hp:1≤2^k:=Nat.one_le_two_pow
  have e0:2^(k+1)-1≠0:=by rw[Nat.pow_succ];omega
  have e1:(2^(k+1)-1)%2=1:=by rw[Nat.pow_succ];omega
  have e2:(2^(k+1)-1)/2=2^k-1:=by rw[Nat.pow_succ];omega
  rw[invF,if_neg e0,if_pos e1,e2]
  have hoo:0≤out*out:=Int.mul_nonneg ho.1 ho.1
  have e3:((out*out).tmod 65537*a).tmod 65537=out*sq%65537:=by
   rw[Int.tmod_eq_emod_of_nonneg hoo,Int.tmod_eq_emod_of_nonneg (Int.mul_nonneg (Int.emod_nonneg _ (by decide)) ha.1),emul,Int.mul_assoc,← emul',h]
  show _=refInvG a k (((out*out).tmod 65537*a).tmod 65537)∧(refInvG a k (((out*out).tmod 65537*a).tmod 65537)*a)%65537=sqI k (sq*sq%65537)∧_
  simp only[refInvG]
  rw[modG_emod,modG_emod,e3]
  refine inv_sim ha k _ _ ⟨Int.emod_nonneg _ (by decide),Int.emod_lt_of_pos _ (by decide)⟩ ⟨Int.emod_nonneg _ (by decide),Int.emod_lt_of_pos _ (by decide)⟩ ?_
  rw[emul,Int.mul_assoc,Int.mul_comm sq a,← Int.mul_assoc,← emul,h]
theorem inv_ref{a:Int}(ha:0≤a∧a<65537):invG a=refInvG a 16 1∧(invG a*a)%65537=sqI 16 a∧0≤invG a∧invG a<65537:=by
 have h:=inv_sim ha 16 1 a (by decide) ha (by rw[Int.one_mul];omega)
 unfold invG
 have e:2^16-1=65535:=by decide
 rw[e] at h
 exact⟨h.1,by rw[h.1];exact h.2.1,by rw[h.1];exact h.2.2⟩
def sqN(x:Nat):Nat:=x*x%65537
def sqP(x:Nat):Nat:=sqN (sqN (sqN (sqN (sqN (sqN (sqN (sqN (sqN (sqN (sqN (sqN (sqN (sqN (sqN (sqN x)))))))))))))))
def chk:Nat→Nat→Bool
 |0,b=>Nat.beq (sqP b) 1||Nat.beq b 0
 |d+1,b=>chk d (2*b)&&chk d (2*b+1)
theorem chk_sound: ∀(d b:Nat),chk d b=true→ ∀x,b*2^d≤x→x<(b+1)*2^d→sqP x=1∨x=0
 |0,b,h,x,h1,h2=>by
  have:x=b:=by simp at h1 h2;omega
  subst this
  simp only[chk,Bool.or_eq_true] at h
  exact h.imp Nat.eq_of_beq_eq_true Nat.eq_of_beq_eq_true
 |d+1,b,h,x,h1,h2=>by
  simp only[chk,Bool.and_eq_true] at h
  rw[Nat.pow_succ] at h1 h2
  by_cases hx:x<(2*b+1)*2^d
  ·refine chk_sound d (2*b) h.1 x ?_ hx
   rw[Nat.mul_comm 2 b,Nat.mul_assoc,Nat.mul_comm 2]
   exact h1
  ·refine chk_sound d (2*b+1) h.2 x (by omega) ?_
   have e:(2*b+1+1)*2^d=(b+1)*(2^d*2):=by
    rw[show 2*b+1+1=(b+1)*2 by omega,Nat.mul_assoc,Nat.mul_comm 2]
   rw[e];exact h2
theorem chk_all:chk 16 0=true:=by kernel_rfl
theorem chk_last:sqP 65536=1:=by kernel_rfl
theorem sqI_nat(k x:Nat):sqI (k+1) (x:Int)=sqI k ((sqN x:Nat):Int):=by
 simp only[sqI,sqN]
 congr 1
theorem fermat{a:Int}(h0:1≤a)(h1:a<65537):sqI 16 a=1:=by
 obtain⟨x,rfl⟩:=Int.eq_ofNat_of_zero_le (show 0≤a by omega)
 have h:sqP x=1:=by
  by_cases hx:x<65536
  ·rcases chk_sound 16 0 chk_all x (by omega) (by omega) with h|h
   ·exact h
   ·omega
  ·have:x=65536:=by omega
   rw[this];exact chk_last
 have e:sqI 16 (x:Int)=((sqP x:Nat):Int):=by
  simp only[sqI_nat]
  rfl
 rw[e,h];rfl
theorem inv_mul{a:Int}(h0:1≤a)(h1:a<65537):(a*invG a)%65537=1∧1≤invG a∧invG a<65537:=by
 obtain⟨_,h2,h3,h4⟩:=inv_ref (a:=a) ⟨by omega,h1⟩
 rw[fermat h0 h1] at h2
 refine⟨by rw[Int.mul_comm];exact h2,?_,h4⟩
 rcases Int.lt_or_eq_of_le h3 with h|h
 ·omega
 ·rw[← h] at h2
  simp at h2
end Go.Ev
namespace Go.Ev
open Go Go.Proofs
set_option maxRecDepth 20000
def memB(v:Int)(l:List Int):Bool:=l.any fun x=>v==x
def idxOfI(v:Int):Int→List Int→Int
 |_,[]=> -1
 |i,x::l=>bif v==x then i else idxOfI v (i+1) l
def indexL:LSpec:=fun vs σ k=>match vs,σ with
 |[.one (.data (.ints .i64 l)),.one (.int .i64 v),.one (.int .i64 n),.one (.int .i64 i)],[]=>
  (l.length≤1000000000∧0≤i∧n=l.length)∧bif memB v (l.drop i.toNat) then k .ret [.one (.int .i64 (idxOfI v i (l.drop i.toNat)))] [] else k (.exit 0) [.any] []
 |_,_=>False
def indexS:Spec:=fun args σ K=>match args,σ with
 |[.one (.data (.ints .i64 l)),.one (.int .i64 v)],[]=>l.length≤1000000000∧K (.one (.int .i64 (idxOfI v 0 l))) []
 |_,_=>False
def containsS:Spec:=fun args σ K=>match args,σ with
 |[.one (.data (.ints .i64 l)),.one (.int .i64 v)],[]=>l.length≤1000000000∧K (.one (.bool (memB v l))) []
 |_,_=>False
def facG(i j:Int):Int:=invG (modG (4+i-j))
def factorS:Spec:=fun args σ K=>match args,σ with
 |[.one (.int .i64 i),.one (.int .i64 j)],[]=>(0≤i∧i≤1000∧0≤j∧j≤1000)∧K (.one (.int .i64 (facG i j))) []
 |_,_=>False
def len8(xs:List Int):Bool:=xs.length==8
def okRow(xs:List Int):Bool:=xs.all sampleG
def keptB(ws:List Int):Int→List (List Int)→Bool
 |_,[]=>true
 |i,xs::l=>(memB i ws||okRow xs)&&keptB ws (i+1) l
def parR(ws:List Int)(j:Int)(at_:Nat):Int→Int→List (List Int)→Int
 |out,_,[]=>out
 |out,i,xs::l=>parR ws j at_ (bif memB i ws then out else modG (out+modG (facG i j*modG (xs.getD at_ 0+32768)))) (i+1) l
def parityL:LSpec:=fun vs σ k=>match vs,σ with
 |[.one (.data (.ints .i64 ws)),.one (.int .i64 j),.one (.int .i64 a),.one (.int .i64 out),.one (.data (.mat .i64 8 xss)),.one (.int .i64 n),.one (.int .i64 i)],[]=>
  (ws.length≤1000∧xss.length≤1000∧0≤j∧j≤1000∧0≤a∧a≤7∧0≤i∧n=xss.length∧0≤out∧out<65537∧xss.all len8=true∧keptB ws i (xss.drop i.toNat)=true)∧
  k (.exit 0) [.one (.int .i64 (parR ws j a.toNat out i (xss.drop i.toNat)))] []
 |_,_=>False
def parityS:Spec:=fun args σ K=>match args,σ with
 |[.one (.data (.mat .i64 8 xss)),.one (.data (.ints .i64 ws)),.one (.int .i64 j),.one (.int .i64 a)],[]=>
  (ws.length≤1000∧xss.length≤1000∧0≤j∧j≤1000∧0≤a∧a≤7∧xss.all len8=true∧keptB ws 0 xss=true)∧K (.one (.int .i64 (parR ws j a.toNat 0 0 xss))) []
 |_,_=>False
def each8L:LSpec:=fun vs σ k=>match vs,σ with
 |[.one (.func 65 []),.one (.data (.mat .i64 8 l)),.one (.int .i64 n),.one (.int .i64 i)],[]=>
  (l.length≤1000000000∧0≤i∧n=l.length∧l.all len8=true)∧bif (l.drop i.toNat).all okRow then k (.exit 0) [.any] [] else k .ret [.one (.int .i64 2)] []
 |_,_=>False
def each8S:Spec:=fun args σ K=>match args,σ with
 |[.one (.data (.mat .i64 8 l)),.one (.func 65 [])],[]=>(l.length≤1000000000∧l.all len8=true)∧K (.one (.int .i64 (bif l.all okRow then 0 else 2))) []
 |_,_=>False
def colsF(xss:List (List Int))(j:Int):Nat→Nat→List Int
 |_,0=>[]
 |a,c+1=>parR [] j a 0 0 xss::colsF xss j (a+1) c
def rowsF(xss:List (List Int)):Int→Nat→List (List Int)
 |_,0=>[]
 |j,c+1=>colsF xss j 0 8::rowsF xss (j+1) c
def parM(xss:List (List Int))(count:Int):List (List Int):=rowsF xss 0 count.toNat
def okData(xss:List (List Int)):Prop:=xss.length≤1000∧xss.all len8=true∧keptB [] 0 xss=true
def par6L:LSpec:=fun vs σ k=>match vs,σ with
 |[.one (.data (.mat .i64 8 xss)),.one (.own 0 8),.one (.int .i64 n),.one (.int .i64 j)],[.row 22 (.mat .i64 8 out)]=>
  (okData xss∧n=out.length∧out.length≤100∧0≤j∧j≤n∧out.all len8=true)∧k (.exit 0) [.one (.own 0 8)] [.row 22 (.mat .i64 8 (out.take j.toNat++rowsF xss j (n-j).toNat))]
 |_,_=>False
def par9L:LSpec:=fun vs σ k=>match vs,σ with
 |[.one (.data (.mat .i64 8 xss)),.one (.own 0 8),.one (.int .i64 j),.one (.int .i64 n),.one (.int .i64 jj),.one (.int .i64 a)],[.row 22 (.mat .i64 8 out)]=>
  (okData xss∧out.length≤100∧0≤j∧j<out.length∧0≤a∧a≤8∧out.all len8=true)∧
  k (.exit 2) [.one (.data (.mat .i64 8 xss)),.one (.own 0 8),.one (.int .i64 n),.one (.int .i64 jj)] [.row 22 (.mat .i64 8 (out.set j.toNat ((out.getD j.toNat []).take a.toNat++colsF xss j a.toNat (8-a).toNat)))]
 |_,_=>False
def dataE(xss:List (List Int))(c:Int):Int:=firstE [bif decide ((xss.length:Int)>0) then 0 else 10,bif decide ((xss.length:Int)≤12) then 0 else 8,bif xss.all okRow then 0 else 2,bif withinG c 1 4 then 0 else 2]
def parityOfS:Spec:=fun args σ K=>match args,σ with
 |[.one (.data (.mat .i64 8 xss)),.one (.int .i64 c)],[]=>(xss.length≤1000000000∧xss.all len8=true)∧
  bif dataE xss c==0 then K (.tup [.one (.own 0 8),.one (.int .i64 0)]) [.row 22 (.mat .i64 8 (parM xss c))] else K (.tup [.one .nil,.one (.int .i64 (dataE xss c))]) []
 |_,_=>False
def copyDataS:Spec:=fun args σ K=>match args,σ with
 |[.one (.data (.mat .i64 8 l))],[]=>l.length≤1000000∧K (.one (.own 0 8)) [.row 22 (.mat .i64 8 l)]
 |_,_=>False
noncomputable abbrev E135:Env:=envOf Tryz.prog [] [(2,.spec [0,1,7,8] [4] indexL)] 19 0
noncomputable abbrev E113:Env:=envOf Tryz.prog [(114,indexS)] [] 9 0
noncomputable abbrev E115:Env:=envOf Tryz.prog [(82,moduloS),(87,inverseS)] [] 11 0
noncomputable abbrev E100:Env:=envOf Tryz.prog [(79,containsS),(81,factorS),(82,moduloS),(107,timesS)] [(3,.spec [1,2,3,9,12,13,14] [9] parityL)] 37 0
noncomputable abbrev E99:Env:=envOf Tryz.prog [(65,samplesS)] [(2,.spec [1,8,9,10] [4] each8L)] 21 0
noncomputable abbrev E40:Env:=envOf Tryz.prog [(50,unlessS),(75,each8S),(46,withinS),(49,firstS),(76,parityS)] [(6,.spec [0,7,31,32] [7] par6L),(9,.spec [0,7,8,31,32,35] [0,7,31,32] par9L)] 50 0
noncomputable abbrev E41:Env:=envOf Tryz.prog [] [] 6 0
end Go.Ev
namespace Go.Ev
open Go Go.Proofs
set_option maxRecDepth 100000
theorem ex135(l:List Int)(v:Int)(K:AV→List Blk→Prop):evFn E135 Tryz.f114 [.one (.data (.ints .i64 l)),.one (.int .i64 v)] [] K=((l.length≤1000000000∧(0:Int)≤(0:Int)∧(↑l.length:Int)=(↑l.length:Int))∧bif memB v l then K (.one (.int .i64 (idxOfI v 0 l))) [] else K (.one (.int .i64 (-1:Int))) []):=by kernel_rfl
theorem ex135a(l:List Int)(v n i:Int)(K:Ex→List AV→List Blk→Prop):evBody E135 (lb Tryz.f114 0) [0,1,7,8] [4] [.one (.data (.ints .i64 l)),.one (.int .i64 v),.one (.int .i64 n),.one (.int .i64 i)] [] K=(bif decide (i<n) then bif decide (0≤i)&&decide (i<(↑l.length:Int)) then bif decide (i.toNat+0<l.length) then bif v==l.getD (i.toNat+0) 0 then K .ret [.one (.int .i64 i)] [] else K .normal [.one (.data (Row.ints .i64 l)),.one (.int .i64 v),.one (.int .i64 n),.one (.int .i64 (IntKind.i64.wrap (i+1)))] [] else False else False else K (.exit 0) [AV.any] []):=by kernel_rfl
theorem ex113(l:List Int)(v:Int)(K:AV→List Blk→Prop):evFn E113 Tryz.f79 [.one (.data (.ints .i64 l)),.one (.int .i64 v)] [] K=(l.length≤1000000000∧K (.one (.bool (decide (idxOfI v 0 l≥0)))) []):=by kernel_rfl
theorem ex115(i j:Int)(K:AV→List Blk→Prop):evFn E115 Tryz.f81 [.one (.int .i64 i),.one (.int .i64 j)] [] K=((0≤modG (IntKind.i64.wrap (IntKind.i64.wrap (4+i)-j))∧modG (IntKind.i64.wrap (IntKind.i64.wrap (4+i)-j))<65537)∧K (.one (.int .i64 (invG (modG (IntKind.i64.wrap (IntKind.i64.wrap (4+i)-j)))))) []):=by kernel_rfl
theorem ex100(xss:List (List Int))(ws:List Int)(j a:Int)(K:AV→List Blk→Prop):evFn E100 Tryz.f76 [.one (.data (.mat .i64 8 xss)),.one (.data (.ints .i64 ws)),.one (.int .i64 j),.one (.int .i64 a)] [] K=((ws.length≤1000∧xss.length≤1000∧0≤j∧j≤1000∧0≤a∧a≤7∧(0:Int)≤(0:Int)∧(↑xss.length:Int)=(↑xss.length:Int)∧(0:Int)≤(0:Int)∧(0:Int)<(65537:Int)∧xss.all len8=true∧keptB ws 0 xss=true)∧K (.one (.int .i64 (parR ws j a.toNat (0:Int) 0 xss))) []):=by kernel_rfl
theorem ex100a(xss:List (List Int))(ws:List Int)(j a out n i:Int)(K:Ex→List AV→List Blk→Prop):evBody E100 (lb Tryz.f76 0) [1,2,3,9,12,13,14] [9] [.one (.data (.ints .i64 ws)),.one (.int .i64 j),.one (.int .i64 a),.one (.int .i64 out),.one (.data (.mat .i64 8 xss)),.one (.int .i64 n),.one (.int .i64 i)] [] K=(bif decide (i<n) then bif decide (0≤i)&&decide (i<(↑xss.length:Int)) then bif decide (7<8)&&decide (i.toNat<xss.length) then ws.length≤1000000000∧bif !memB i ws then bif decide (0≤a)&&decide (a<8) then bif decide (0+a.toNat+0<[(match xss[i.toNat]? with|some x=>x|none=>[]).getD 0 0,(match xss[i.toNat]? with|some x=>x|none=>[]).getD 1 0,(match xss[i.toNat]? with|some x=>x|none=>[]).getD 2 0,(match xss[i.toNat]? with|some x=>x|none=>[]).getD 3 0,(match xss[i.toNat]? with|some x=>x|none=>[]).getD 4 0,(match xss[i.toNat]? with|some x=>x|none=>[]).getD 5 0,(match xss[i.toNat]? with|some x=>x|none=>[]).getD 6 0,(match xss[i.toNat]? with|some x=>x|none=>[]).getD 7 0].length) then(0≤i∧i≤1000∧0≤j∧j≤1000)∧(0≤facG i j∧facG i j<65537∧0≤modG (IntKind.i64.wrap ([(match xss[i.toNat]? with|some x=>x|none=>[]).getD 0 0,(match xss[i.toNat]? with|some x=>x|none=>[]).getD 1 0,(match xss[i.toNat]? with|some x=>x|none=>[]).getD 2 0,(match xss[i.toNat]? with|some x=>x|none=>[]).getD 3 0,(match xss[i.toNat]? with|some x=>x|none=>[]).getD 4 0,(match xss[i.toNat]? with|some x=>x|none=>[]).getD 5 0,(match xss[i.toNat]? with|some x=>x|none=>[]).getD 6 0,(match xss[i.toNat]? with|some x=>x|none=>[]).getD 7 0].getD (0+a.toNat+0) (0:Int)+(32768:Int)))∧modG (IntKind.i64.wrap ([(match xss[i.toNat]? with|some x=>x|none=>[]).getD 0 0,(match xss[i.toNat]? with|some x=>x|none=>[]).getD 1 0,(match xss[i.toNat]? with|some x=>x|none=>[]).getD 2 0,(match xss[i.toNat]? with|some x=>x|none=>[]).getD 3 0,(match xss[i.toNat]? with|some x=>x|none=>[]).getD 4 0,(match xss[i.toNat]? with|some x=>x|none=>[]).getD 5 0,(match xss[i.toNat]? with|some x=>x|none=>[]).getD 6 0,(match xss[i.toNat]? with|some x=>x|none=>[]).getD 7 0].getD (0+a.toNat+0) (0:Int)+(32768:Int)))<65537)∧K .normal [.one (.data (Row.ints .i64 ws)),.one (.int .i64 j),.one (.int .i64 a),.one (.int .i64 (modG (IntKind.i64.wrap (out+modG (facG i j*modG (IntKind.i64.wrap ([(match xss[i.toNat]? with|some x=>x|none=>[]).getD 0 0,(match xss[i.toNat]? with|some x=>x|none=>[]).getD 1 0,(match xss[i.toNat]? with|some x=>x|none=>[]).getD 2 0,(match xss[i.toNat]? with|some x=>x|none=>[]).getD 3 0,(match xss[i.toNat]? with|some x=>x|none=>[]).getD 4 0,(match xss[i.toNat]? with|some x=>x|none=>[]).getD 5 0,(match xss[i.toNat]? with|some x=>x|none=>[]).getD 6 0,(match xss[i.toNat]? with|some x=>x|none=>[]).getD 7 0].getD (0+a.toNat+0) (0:Int)+(32768:Int)))))))),.one (.data (Row.mat .i64 8 xss)),.one (.int .i64 n),.one (.int .i64 (IntKind.i64.wrap (i+1)))] [] else False else False else K .normal [.one (.data (Row.ints .i64 ws)),.one (.int .i64 j),.one (.int .i64 a),.one (.int .i64 out),.one (.data (Row.mat .i64 8 xss)),.one (.int .i64 n),.one (.int .i64 (IntKind.i64.wrap (i+1)))] [] else False else False else K (.exit 0) [.one (.int .i64 out)] []):=by kernel_rfl
theorem ex99(l:List (List Int))(K:AV→List Blk→Prop):evFn E99 Tryz.f75 [.one (.data (.mat .i64 8 l)),.one (.func 65 [])] [] K=((l.length≤1000000000∧(0:Int)≤(0:Int)∧(↑l.length:Int)=(↑l.length:Int)∧l.all len8=true)∧bif l.all okRow then K (.one (.int .i64 0)) [] else K (.one (.int .i64 2)) []):=by kernel_rfl
theorem ex99a(l:List (List Int))(n i:Int)(K:Ex→List AV→List Blk→Prop):evBody E99 (lb Tryz.f75 0) [1,8,9,10] [4] [.one (.func 65 []),.one (.data (.mat .i64 8 l)),.one (.int .i64 n),.one (.int .i64 i)] [] K=(bif decide (i<n) then bif decide (0≤i)&&decide (i<(↑l.length:Int)) then bif decide (7<8)&&decide (i.toNat<l.length) then bif (bif [(match l[i.toNat]? with|some x=>x|none=>[]).getD 0 0,(match l[i.toNat]? with|some x=>x|none=>[]).getD 1 0,(match l[i.toNat]? with|some x=>x|none=>[]).getD 2 0,(match l[i.toNat]? with|some x=>x|none=>[]).getD 3 0,(match l[i.toNat]? with|some x=>x|none=>[]).getD 4 0,(match l[i.toNat]? with|some x=>x|none=>[]).getD 5 0,(match l[i.toNat]? with|some x=>x|none=>[]).getD 6 0,(match l[i.toNat]? with|some x=>x|none=>[]).getD 7 0].all sampleG then(0:Int) else(2:Int))!=0 then K .ret [.one (.int .i64 (bif [(match l[i.toNat]? with|some x=>x|none=>[]).getD 0 0,(match l[i.toNat]? with|some x=>x|none=>[]).getD 1 0,(match l[i.toNat]? with|some x=>x|none=>[]).getD 2 0,(match l[i.toNat]? with|some x=>x|none=>[]).getD 3 0,(match l[i.toNat]? with|some x=>x|none=>[]).getD 4 0,(match l[i.toNat]? with|some x=>x|none=>[]).getD 5 0,(match l[i.toNat]? with|some x=>x|none=>[]).getD 6 0,(match l[i.toNat]? with|some x=>x|none=>[]).getD 7 0].all sampleG then(0:Int) else(2:Int)))] [] else K .normal [.one (.func (65:FuncId) []),.one (.data (Row.mat .i64 8 l)),.one (.int .i64 n),.one (.int .i64 (IntKind.i64.wrap (i+1)))] [] else False else False else K (.exit 0) [AV.any] []):=by kernel_rfl
theorem ex40(xss:List (List Int))(c:Int)(K:AV→List Blk→Prop):evFn E40 Tryz.f25 [.one (.data (.mat .i64 8 xss)),.one (.int .i64 c)] [] K=((xss.length≤1000000000∧xss.all len8=true)∧[bif decide ((↑xss.length:Int)>0) then(0:Int) else(10:Int),bif decide ((↑xss.length:Int)≤12) then(0:Int) else(8:Int),bif xss.all okRow then(0:Int) else(2:Int),bif decide (1≤c)&&decide (c≤4) then(0:Int) else(2:Int)].length≤1000∧bif firstE [bif decide ((↑xss.length:Int)>0) then(0:Int) else(10:Int),bif decide ((↑xss.length:Int)≤12) then(0:Int) else(8:Int),bif xss.all okRow then(0:Int) else(2:Int),bif decide (1≤c)&&decide (c≤4) then(0:Int) else(2:Int)]!=0 then K (AV.tup [.one .nil,.one (.int .i64 (firstE [bif decide ((↑xss.length:Int)>0) then(0:Int) else(10:Int),bif decide ((↑xss.length:Int)≤12) then(0:Int) else(8:Int),bif xss.all okRow then(0:Int) else(2:Int),bif decide (1≤c)&&decide (c≤4) then(0:Int) else(2:Int)]))]) [] else bif decide (0≤c)&&(decide (c≤c)&&decide (c*(64:Int)≤(140737488355328:Int)∧c≤140737488355328)) then((xss.length≤1000∧xss.all len8=true∧keptB [] 0 xss=true)∧(↑(List.replicate c.toNat [(0:Int),0,0,0,0,0,0,0]).length:Int)=(↑(List.replicate c.toNat [(0:Int),0,0,0,0,0,0,0]).length:Int)∧(List.replicate c.toNat [(0:Int),0,0,0,0,0,0,0]).length≤100∧(0:Int)≤(0:Int)∧0≤(↑(List.replicate c.toNat [(0:Int),0,0,0,0,0,0,0]).length:Int)∧(List.replicate c.toNat [(0:Int),0,0,0,0,0,0,0]).all len8=true)∧K (AV.tup [.one (.own 0 8),.one (.int .i64 0)]) [Blk.row 22 (Row.mat .i64 8 (rowsF xss 0 ((↑(List.replicate c.toNat [(0:Int),0,0,0,0,0,0,0]).length:Int)-0).toNat))] else False):=by kernel_rfl
theorem ex40a(xss out:List (List Int))(n j:Int)(K:Ex→List AV→List Blk→Prop):evBody E40 (lb Tryz.f25 0) [0,7,31,32] [7] [.one (.data (.mat .i64 8 xss)),.one (.own 0 8),.one (.int .i64 n),.one (.int .i64 j)] [.row 22 (.mat .i64 8 out)] K=(bif decide (j<n) then((xss.length≤1000∧xss.all len8=true∧keptB [] 0 xss=true)∧out.length≤100∧0≤j∧j<(↑out.length:Int)∧(0:Int)≤(0:Int)∧(0:Int)≤(8:Int)∧out.all len8=true)∧K .normal [.one (.data (Row.mat .i64 8 xss)),.one (.own 0 8),.one (.int .i64 n),.one (.int .i64 (IntKind.i64.wrap (j+1)))] [Blk.row 22 (Row.mat .i64 8 (out.set j.toNat (colsF xss j 0 8)))] else K (.exit 0) [.one (.own 0 8)] [Blk.row 22 (Row.mat .i64 8 out)]):=by kernel_rfl
theorem ex40b(xss out:List (List Int))(n j jj a:Int)(K:Ex→List AV→List Blk→Prop):evBody E40 (lb Tryz.f25 1) [0,7,8,31,32,35] [0,7,31,32] [.one (.data (.mat .i64 8 xss)),.one (.own 0 8),.one (.int .i64 j),.one (.int .i64 n),.one (.int .i64 jj),.one (.int .i64 a)] [.row 22 (.mat .i64 8 out)] K=(bif decide (a<8) then bif decide (0≤j)&&decide (j<(↑out.length:Int)) then(0≤1000∧xss.length≤1000∧0≤j∧j≤1000∧0≤a∧a≤7∧xss.all len8=true∧keptB [] 0 xss=true)∧bif decide (0≤a)&&decide (a<8) then bif decide (0+a.toNat<8)&&decide (j.toNat<out.length)&&decide ((match out[j.toNat]? with|some x=>x|none=>[]).length=8) then K .normal [.one (.data (Row.mat .i64 8 xss)),.one (.own 0 8),.one (.int .i64 j),.one (.int .i64 n),.one (.int .i64 jj),.one (.int .i64 (IntKind.i64.wrap (a+1)))] [Blk.row 22 (Row.mat .i64 8 (out.set j.toNat ((match out[j.toNat]? with|some x=>x|none=>[]).set (0+a.toNat) (parR [] j a.toNat (0:Int) 0 xss))))] else False else False else False else K (.exit 2) [.one (.data (Row.mat .i64 8 xss)),.one (.own 0 8),.one (.int .i64 n),.one (.int .i64 jj)] [Blk.row 22 (Row.mat .i64 8 out)]):=by kernel_rfl
theorem ex41(l:List (List Int))(K:AV→List Blk→Prop):evFn E41 Tryz.f26 [.one (.data (.mat .i64 8 l))] [] K=(bif decide (l.length*64≤140737488355328∧l.length≤140737488355328) then K (.one (.own 0 8)) [Blk.row 22 (Row.mat .i64 8 l)] else False):=by kernel_rfl
end Go.Ev
