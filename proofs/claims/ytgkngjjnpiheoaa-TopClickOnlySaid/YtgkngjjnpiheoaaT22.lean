/-
  Part of the proof that TopClickOnly holds.
-/
import Derived.Test.YtgkngjjnpiheoaaT21
set_option linter.unusedVariables false
set_option linter.unusedSimpArgs false
set_option linter.unusedSectionVars false
namespace Go.Ev
open Go Go.Proofs
set_option maxRecDepth 20000
theorem dvA_skip{h:List Int}{r:List (List Int)}: ∀(c:Nat) (i:Int),h.getD 0 0+2≤i→dvA (h::r) i c=dvA r i c
 |0,_,_=>rfl
 |c+1,i,hi=>by
  show dvH (h::r) i::dvA (h::r) (i+1) c=dvH r i::dvA r (i+1) c
  rw[dvA_skip c (i+1) (by omega)]
  have:dvH (h::r) i=dvH r i:=by
   show(if i=h.getD 0 0 then _ else _)=_
   rw[if_neg (by omega),if_neg (by omega)]
  rw[this]
theorem run_zero{o:Option (List Int)}{i d:Int}{l:List Int}(h:d≤800):runF 800 2 o i (d::l)=runF 800 2 o (i+1) l:=by
 cases o with
 |none=>show(bif decide (d≤800) then _ else _)=_;rw[decide_eq_true h];rfl
 |some r=>show(bif decide (d≤800) then _ else _)=_;rw[decide_eq_true h];rfl
theorem run_new{i d:Int}{l:List Int}(h:¬d≤800):runF 800 2 none i (d::l)=runF 800 2 (some [i,i,i,d]) (i+1) l:=by
 show(bif decide (d≤800) then _ else _)=_;rw[decide_eq_false h];rfl
theorem run_flush{r:List Int}{i d:Int}{l:List Int}(h:¬d≤800)(h2:i-r.getD 1 0>3):runF 800 2 (some r) i (d::l)=r::runF 800 2 (some [i,i,i,d]) (i+1) l:=by
 show(bif decide (d≤800) then _ else bif decide (i-r.getD 1 0>2+1) then _ else _)=_
 rw[decide_eq_false h,decide_eq_true (show i-r.getD 1 0>2+1 by omega)];rfl
theorem run_up{a b m v i d:Int}{l:List Int}(h:¬d≤800)(h2:¬i-b>3)(h3:d>v):runF 800 2 (some [a,b,m,v]) i (d::l)=runF 800 2 (some [a,i,i,d]) (i+1) l:=by
 show(bif decide (d≤800) then _ else bif decide (i-b>2+1) then _ else runF 800 2 (some [a,i,bif decide (d>v) then i else m,bif decide (d>v) then d else v]) (i+1) l)=_
 rw[decide_eq_false h,decide_eq_false (show¬i-b>2+1 by omega),decide_eq_true h3];rfl
theorem run_on{a b m v i d:Int}{l:List Int}(h:¬d≤800)(h2:¬i-b>3)(h3:¬d>v):runF 800 2 (some [a,b,m,v]) i (d::l)=runF 800 2 (some [a,i,m,v]) (i+1) l:=by
 show(bif decide (d≤800) then _ else bif decide (i-b>2+1) then _ else runF 800 2 (some [a,i,bif decide (d>v) then i else m,bif decide (d>v) then d else v]) (i+1) l)=_
 rw[decide_eq_false h,decide_eq_false (show¬i-b>2+1 by omega),decide_eq_false h3];rfl
theorem runs_both: ∀(c:Nat) (i:Int) (hs:List (List Int)) (lo:Int),i+c=120→sepH lo hs→i+1≤lo→runF 800 2 none i (dvA hs i c)=hs.map runOf∧ ∀r0:List Int,r0.getD 1 0+6≤lo→runF 800 2 (some r0) i (dvA hs i c)=r0::hs.map runOf:=by
 intro c
 induction c using Nat.strongRecOn with
 |ind c ih=>
  intro i hs lo hic hsep hlo
  cases hs with
  |nil=>
   cases c with
   |zero=>exact⟨rfl,fun _ _=>rfl⟩
   |succ c=>
    obtain⟨e1,e2⟩:=ih c (by omega) (i+1) [] (lo+1) (by omega) trivial (by omega)
    have hd:dvA [] i (c+1)=0::dvA [] (i+1) c:=rfl
    rw[hd]
    exact⟨by rw[run_zero (by decide)];exact e1,fun r0 hr=>by rw[run_zero (by decide)];exact e2 r0 (by omega)⟩
  |cons h r=>
   obtain⟨⟨h1,h2,h3,h4,h5⟩,hr⟩:=id hsep
   by_cases hi:i+1<h.getD 0 0
   ·cases c with
    |zero=>omega
    |succ c=>
     obtain⟨e1,e2⟩:=ih c (by omega) (i+1) (h::r) (h.getD 0 0) (by omega) (show sepH (h.getD 0 0) (h::r) from⟨⟨Int.le_refl _,h2,h3,h4,h5⟩,hr⟩) (by omega)
     have hd:dvA (h::r) i (c+1)=0::dvA (h::r) (i+1) c:=by
      show dvH (h::r) i::_=_
      rw[dvH_lo (show sepH (h.getD 0 0) (h::r) from⟨⟨Int.le_refl _,h2,h3,h4,h5⟩,hr⟩) (by omega)]
     rw[hd]
     exact⟨by rw[run_zero (by decide)];exact e1,fun r0 h0=>by rw[run_zero (by decide)];exact e2 r0 (by omega)⟩
   ·have ei:i=h.getD 0 0-1:=by omega
    match c,hic,ih with
    |c+3,hic,ih=>
     obtain⟨e1,e2⟩:=ih c (by omega) (i+3) r (h.getD 0 0+12) (by omega) hr (by omega)
     have hA:1600<abG (h.getD 1 0)∧abG (h.getD 1 0)≤20000:=by unfold abG;split<;>omega
     have hS:sizeG (h.getD 1 0)=abG (h.getD 1 0):=sizeG_abs (by omega) (by omega)
     have hd:dvA (h::r) i (c+3)=abG (h.getD 1 0)::2*abG (h.getD 1 0)::abG (h.getD 1 0)::dvA r (i+3) c:=by
      show dvH (h::r) i::dvH (h::r) (i+1)::dvH (h::r) (i+1+1)::dvA (h::r) (i+1+1+1) c=_
      rw[show i+1+1+1=i+3 by omega,dvA_skip c (i+3) (by omega)]
      have d0:dvH (h::r) i=abG (h.getD 1 0):=by
       show(if i=h.getD 0 0 then _ else _)=_
       rw[if_neg (by omega),if_pos (by omega)]
      have d1:dvH (h::r) (i+1)=2*abG (h.getD 1 0):=by
       show(if i+1=h.getD 0 0 then _ else _)=_
       rw[if_pos (by omega)]
      have d2:dvH (h::r) (i+1+1)=abG (h.getD 1 0):=by
       show(if i+1+1=h.getD 0 0 then _ else _)=_
       rw[if_neg (by omega),if_pos (by omega)]
      rw[d0,d1,d2]
     have hend:runF 800 2 (some [i,i,i,abG (h.getD 1 0)]) (i+1) (2*abG (h.getD 1 0)::abG (h.getD 1 0)::dvA r (i+3) c)=runOf h::r.map runOf:=by
      rw[run_up (by omega) (by omega) (by omega),run_on (by omega) (by omega) (by omega)]
      have e3:[i,i+1+1,i+1,2*abG (h.getD 1 0)]=runOf h:=by
       unfold runOf
       rw[hS,show i+1+1=h.getD 0 0+1 by omega,show i+1=h.getD 0 0 by omega,ei]
      rw[e3,show i+1+1+1=i+3 by omega]
      exact e2 _ (by show h.getD 0 0+1+6≤_;omega)
     rw[hd]
     refine⟨?_,fun r0 h0=> ?_⟩
     ·rw[run_new (by omega)];exact hend
     ·rw[run_flush (by omega) (by omega),hend];rfl
    |0,hic,_=>omega
    |1,hic,_=>omega
    |2,hic,_=>omega
theorem dev_line{a b:Int}{hs:List (List Int)}(hab: -2000≤a∧a≤2000∧ -20≤b∧b≤20)(hsep:sepH 8 hs){qu:List Int}(hl:qu.length=120)(hq: ∀k,k<120→qu.getD k 0=a+b*k+sumAt hs k)(i:Int)(h0:0≤i)(h1:i<120):devG 1 qu i=dvH hs i:=by
 show sizeG (curveG qu i)=_
 unfold curveG
 rw[hl]
 by_cases hw:1≤i∧i≤((120:Nat):Int)-2
 ·rw[show withinG i 1 (((120:Nat):Int)-2)=true by unfold withinG;rw[decide_eq_true hw.1,decide_eq_true hw.2];rfl,cond_true]
  rw[hq _ (by omega),hq _ (by omega),hq _ (by omega)]
  obtain⟨k,rfl⟩: ∃k:Nat,i=k:=⟨i.toNat,by omega⟩
  have e1:((k:Int)-1).toNat=k-1:=by omega
  have e2:((k:Int)+1).toNat=k+1:=by omega
  rw[e1,e2,Int.toNat_natCast]
  obtain⟨f1,f2,f3⟩:=dv_sum (k:=k) hsep (by decide) (by omega)
  have ek:((k-1:Nat):Int)=(k:Int)-1:=by omega
  have ek2:((k+1:Nat):Int)=(k:Int)+1:=by omega
  rw[ek,ek2,show b*((k:Int)-1)=b*k-b by rw[Int.mul_sub,Int.mul_one],show b*((k:Int)+1)=b*k+b by rw[Int.mul_add,Int.mul_one]]
  generalize b*(k:Int)=m at *
  have e3:a+(m-b)+sumAt hs (k-1)-2*(a+m+sumAt hs k)+(a+(m+b)+sumAt hs (k+1))=sumAt hs (k-1)-2*sumAt hs k+sumAt hs (k+1):=by omega
  rw[e3,sizeG_abs (by omega) (by omega)]
  exact f1
 ·rw[show withinG i 1 (((120:Nat):Int)-2)=false by
   unfold withinG
   by_cases h:1≤i
   ·rw[decide_eq_false (show¬i≤((120:Nat):Int)-2 by omega),Bool.and_false]
   ·rw[decide_eq_false h];rfl,cond_false]
  have:dvH hs i=0:=by
   by_cases h:i<7
   ·exact dvH_lo hsep (by omega)
   ·exact dvH_hi hsep (by omega)
  rw[this]
  decide
theorem devA_line{hs:List (List Int)}{qu:List Int}(h: ∀i:Int,0≤i→i<120→devG 1 qu i=dvH hs i): ∀(c:Nat) (i:Int),0≤i→i+c=120→devA 1 qu i c=dvA hs i c
 |0,_,_,_=>rfl
 |c+1,i,h0,h1=>by
  show devG 1 qu i::devA 1 qu (i+1) c=dvH hs i::dvA hs (i+1) c
  rw[h i h0 (by omega),devA_line h c (i+1) (by omega) (by omega)]
theorem runs_line{a b:Int}{hs:List (List Int)}(hab: -2000≤a∧a≤2000∧ -20≤b∧b≤20)(hsep:sepH 8 hs){qu:List Int}(hl:qu.length=120)(hq: ∀k,k<120→qu.getD k 0=a+b*k+sumAt hs k):runsG 1 800 2 qu=hs.map runOf:=by
 unfold runsG
 rw[hl,devA_line (dev_line hab hsep hl hq) 120 0 (by decide) (by decide)]
 exact(runs_both 120 0 hs 8 (by decide) hsep (by decide)).1
end Go.Ev
namespace Go.Ev
open Go Go.Proofs
set_option maxRecDepth 20000
def abOk(a b:Int):Prop:= -2000≤a∧a≤2000∧ -20≤b∧b≤20
theorem bk{a b:Int}(h:abOk a b){k:Nat}(hk:k<130): -2600≤b*(k:Int)∧b*(k:Int)≤2600:=by
 obtain⟨_,_,h1,h2⟩:=h
 constructor
 ·have: -20*(k:Int)≤b*k:=Int.mul_le_mul_of_nonneg_right h1 (by omega)
  omega
 ·have:b*(k:Int)≤20*k:=Int.mul_le_mul_of_nonneg_right h2 (by omega)
  omega
theorem errE_mk{l:List Int}(h1:l.length≤200)(h2:l.all sampleG=true):errE l=0:=by
 unfold errE
 rw[decide_eq_true (show(l.length:Int)≤200 by omega),h2];rfl
theorem cl_get(a b:Int){k:Nat}(hk:k<120):(linA a b 0 120).getD k 0=a+b*k:=by
 rw[linA_get a b 120 0 k hk,Int.zero_add]
theorem hum_bd{p hh:Int}{t:List Int}(h:humE p hh t=0)(h2:t.all hunG=true){i:Int}(hi:0≤i): -100≤humV p hh t i∧humV p hh t i≤100:=by
 obtain⟨h3,h4,h5,h6,h7,h8⟩:=humE_zero h
 have e1:(i+hh).tmod p=(i+hh)%p:=Int.tmod_eq_emod_of_nonneg (by omega)
 have e2:=Int.emod_nonneg (i+hh) (show p≠0 by omega)
 have e3:=Int.emod_lt_of_pos (i+hh) (show 0<p by omega)
 have:=all_at h2 (show((i+hh).tmod p).toNat<t.length by omega)
 unfold hunG withinG at this
 unfold humV
 simpa only[Bool.and_eq_true,decide_eq_true_eq] using this
theorem cmbE_mk{p hh:Int}{t:List Int}{tm:Int}{x:List Int}(h:humE p hh t=0)(h1:x.length≤200)(h2:x.all sampleG=true):cmbE p hh t tm x=bif (cmbF p hh t tm 0 x).all sampleG then 0 else 23:=by
 unfold cmbE
 rw[h,errE_mk h1 h2];rfl
section
variable {a b p hh:Int} {t:List Int} {hs:List (List Int)} (hab:abOk a b) (hhum:humE p hh t=0) (h100:t.all hunG=true) (hsep:sepH 8 hs)
include hab in
theorem cl_smp:(linA a b 0 120).all sampleG=true:=by
 refine all_of_get fun k hk=> ?_
 rw[linA_len] at hk
 rw[cl_get a b hk]
 have:=bk hab (k:=k) (by omega)
 obtain⟨x1,x2,_,_⟩:=hab
 exact sampleG_iff.2 ⟨by omega,by omega⟩
theorem he_len:(cmbF p hh t 1 0 (linA a b 0 120)).length=120:=by rw[cmbF_len,linA_len]
theorem he_get{k:Nat}(hk:k<120):(cmbF p hh t 1 0 (linA a b 0 120)).getD k 0=a+b*k+humV p hh t k:=by
 rw[cmbF_get _ _ _ _ _ _ _ (by rw[linA_len];exact hk),cl_get a b hk,Int.zero_add,Int.one_mul]
include hab hhum h100 in
theorem he_bd{k:Nat}(hk:k<120): -5000≤a+b*k+humV p hh t k∧a+b*k+humV p hh t k≤5000:=by
 have:=bk hab (k:=k) (by omega)
 have:=hum_bd hhum h100 (i:=k) (by omega)
 obtain⟨x1,x2,_,_⟩:=hab
 omega
include hab hhum h100 in
theorem he_smp:(cmbF p hh t 1 0 (linA a b 0 120)).all sampleG=true:=by
 refine all_of_get fun k hk=> ?_
 rw[he_len] at hk
 rw[he_get hk]
 have:=he_bd hab hhum h100 hk
 exact sampleG_iff.2 ⟨by omega,by omega⟩
include hab hhum h100 in
theorem he_E:cmbE p hh t 1 (linA a b 0 120)=0:=by
 rw[cmbE_mk hhum (by rw[linA_len];decide) (cl_smp hab),he_smp hab hhum h100];rfl
include hab hhum h100 in
theorem he_R:cmbR p hh t 1 (linA a b 0 120)=cmbF p hh t 1 0 (linA a b 0 120):=by
 unfold cmbR
 rw[he_E hab hhum h100];rfl
include hab hhum h100 in
theorem he_near:nearB 40000 (cmbF p hh t 1 0 (linA a b 0 120))=true:=by
 refine all_of_get fun k hk=> ?_
 rw[he_len] at hk
 rw[he_get hk]
 have:=he_bd hab hhum h100 hk
 unfold withinG
 rw[decide_eq_true (by omega),decide_eq_true (by omega)];rfl
theorem qu_eq:cmbF p hh t (-1) 0 (hitA (cmbF p hh t 1 0 (linA a b 0 120)) hs)=hitA (linA a b 0 120) hs:=by
 refine list_ext0 (by rw[cmbF_len,hitA_len,hitA_len,he_len,linA_len]) fun k hk=> ?_
 rw[cmbF_len,hitA_len,he_len] at hk
 rw[cmbF_get _ _ _ _ _ _ _ (by rw[hitA_len,he_len];exact hk),hitA_get _ _ _ (by rw[he_len];exact hk),hitA_get _ _ _ (by rw[linA_len];exact hk),he_get hk,cl_get a b hk,Int.zero_add]
 omega
theorem qu_len:(hitA (linA a b 0 120) hs).length=120:=by rw[hitA_len,linA_len]
theorem qu_get{k:Nat}(hk:k<120):(hitA (linA a b 0 120) hs).getD k 0=a+b*k+sumAt hs k:=by
 rw[hitA_get _ _ _ (by rw[linA_len];exact hk),cl_get a b hk]
include hsep in
theorem men_vals{h:List Int}(hm:h ∈ hs): ∃m:Nat,h.getD 0 0=m∧8≤m∧m≤111∧ ∀d:Nat,0<d→d<12→(m+d<120→(hitA (linA a b 0 120) hs).getD (m+d) 0=a+b*m+b*d)∧(d≤m→(hitA (linA a b 0 120) hs).getD (m-d) 0=a+b*m-b*d):=by
 obtain⟨h1,h2,_,_⟩:=sep_mem hsep hm
 refine⟨(h.getD 0 0).toNat,by omega,by omega,by omega,fun d d0 d1=>⟨fun hk=> ?_,fun hk=> ?_⟩⟩
 ·rw[qu_get hk,sumAt_far hsep (by decide) hm (by omega) (by omega) (by omega),show(((h.getD 0 0).toNat+d:Nat):Int)=((h.getD 0 0).toNat:Int)+d by omega,Int.mul_add]
  omega
 ·rw[qu_get (by omega),sumAt_far hsep (by decide) hm (by omega) (by omega) (by omega),show(((h.getD 0 0).toNat-d:Nat):Int)=((h.getD 0 0).toNat:Int)-d by omega,Int.mul_sub]
  omega
include hsep in
theorem men_line{h:List Int}(hm:h ∈ hs):uG (hitA (linA a b 0 120) hs) (h.getD 0 0-1)=a+b*h.getD 0 0-b∧bG (hitA (linA a b 0 120) hs) (h.getD 0 0-1)=b∧
  (hitA (linA a b 0 120) hs).getD (h.getD 0 0-1+3).toNat 0=a+b*h.getD 0 0+2*b∧(hitA (linA a b 0 120) hs).getD (h.getD 0 0-1+4).toNat 0=a+b*h.getD 0 0+3*b:=by
 obtain⟨m,e,m8,m1,hv⟩:=men_vals (a:=a) (b:=b) hsep hm
 rw[e]
 unfold uG bG
 rw[show((m:Int)-1-1).toNat=m-2 by omega,show((m:Int)-1-2).toNat=m-3 by omega,show((m:Int)-1+3).toNat=m+2 by omega,show((m:Int)-1+4).toNat=m+3 by omega]
 rw[(hv 2 (by decide) (by decide)).2 (by omega),(hv 3 (by decide) (by decide)).2 (by omega),(hv 2 (by decide) (by decide)).1 (by omega),(hv 3 (by decide) (by decide)).1 (by omega)]
 generalize b*(m:Int)=w
 refine⟨?_,?_,?_,?_⟩<;>omega
include hab hsep in
theorem mk_line(hq:(hitA (linA a b 0 120) hs).all sampleG=true){h:List Int}(hm:h ∈ hs):mkOk (hitA (linA a b 0 120) hs) (mkOf (runOf h)):=by
 obtain⟨h1,h2,_,_⟩:=sep_mem hsep hm
 obtain⟨e1,e2,e3,e4⟩:=men_line (a:=a) (b:=b) hsep hm
 have hbk:=bk hab (k:=(h.getD 0 0).toNat) (by omega)
 rw[show(((h.getD 0 0).toNat:Nat):Int)=h.getD 0 0 by omega] at hbk
 have m0:(mkOf (runOf h)).getD 0 0=h.getD 0 0-1:=rfl
 have m1:(mkOf (runOf h)).getD 1 0=h.getD 0 0+1:=rfl
 have ha:=hab
 obtain⟨a1,a2,a3,a4⟩:=ha
 unfold mkOk
 rw[m0,m1]
 refine⟨⟨⟨by rw[qu_len];decide,hq⟩,by omega,by omega,by rw[qu_len];omega,?_,?_⟩,?_⟩
 ·rw[e3,e1,e2];omega
 ·rw[e4,e1,e2];omega
 ·unfold menN
  rw[e1,e2]
  generalize b*h.getD 0 0=w at *
  simp only[List.all_cons,List.all_nil,Bool.and_true,Bool.and_eq_true]
  exact⟨sampleG_iff.2 ⟨by omega,by omega⟩,sampleG_iff.2 ⟨by omega,by omega⟩,sampleG_iff.2 ⟨by omega,by omega⟩⟩
end
theorem putA3(out:List Int)(p:Nat)(x y z:Int):putA out p [x,y,z]=((out.set p x).set (p+1) y).set (p+2) z:=rfl
theorem intA_get{a b:Int}{qu:List Int}: ∀{r:List (List Int)},(∀h ∈ r,8≤h.getD 0 0∧h.getD 0 0≤111∧uG qu (h.getD 0 0-1)=a+b*h.getD 0 0-b∧bG qu (h.getD 0 0-1)=b)→ ∀(out:List Int),out.length=120→ ∀k,k<120→
  (intA qu out ((r.map runOf).map mkOf)).getD k 0=a+b*k∨((intA qu out ((r.map runOf).map mkOf)).getD k 0=out.getD k 0∧ ∀h ∈ r,(h.getD 0 0).toNat≠k)
 |[],_,out,_,k,_=> .inr ⟨rfl,fun _ h=>by cases h⟩
 |h::r,hr,out,hl,k,hk=>by
  obtain⟨h1,h2,h3,h4⟩:=hr h (List.mem_cons_self ..)
  have e:intA qu out (((h::r).map runOf).map mkOf)=intA qu (putA out (h.getD 0 0-1).toNat (menN qu (h.getD 0 0-1))) ((r.map runOf).map mkOf):=rfl
  rw[e]
  unfold menN
  rw[h3,h4,putA3]
  rcases intA_get (qu:=qu) (r:=r) (fun g hg=>hr g (List.mem_cons_of_mem _ hg)) (((out.set (h.getD 0 0-1).toNat (a+b*h.getD 0 0-b)).set ((h.getD 0 0-1).toNat+1) (a+b*h.getD 0 0-b+b)).set ((h.getD 0 0-1).toNat+2) (a+b*h.getD 0 0-b+2*b)) (by simp[hl]) k hk with h5|⟨h5,h6⟩
  ·exact .inl h5
  ·rw[h5,getSet _ _ _ _ (by simp[hl];exact hk),getSet _ _ _ _ (by simp[hl];exact hk),getSet _ _ _ _ (by rw[hl];exact hk)]
   by_cases c2:(h.getD 0 0-1).toNat+2=k
   ·rw[if_pos c2]
    refine .inl ?_
    rw[show(k:Int)=h.getD 0 0+1 by omega,Int.mul_add];omega
   ·rw[if_neg c2]
    by_cases c1:(h.getD 0 0-1).toNat+1=k
    ·rw[if_pos c1]
     refine .inl ?_
     rw[show(k:Int)=h.getD 0 0 by omega];omega
    ·rw[if_neg c1]
     by_cases c0:(h.getD 0 0-1).toNat=k
     ·rw[if_pos c0]
      refine .inl ?_
      rw[show(k:Int)=h.getD 0 0-1 by omega,Int.mul_sub];omega
     ·rw[if_neg c0]
      refine .inr ⟨rfl,fun g hg=> ?_⟩
      rcases List.mem_cons.1 hg with rfl|hg
      ·omega
      ·exact h6 g hg
theorem intA_len(qu:List Int): ∀(ms:List (List Int)) (out:List Int),(intA qu out ms).length=out.length
 |[],_=>rfl
 |m::r,out=>by show(intA qu (putA out _ _) r).length=_;rw[intA_len qu r,putA_len]
theorem mend_line{a b:Int}{hs:List (List Int)}(hsep:sepH 8 hs):intA (hitA (linA a b 0 120) hs) (hitA (linA a b 0 120) hs) ((hs.map runOf).map mkOf)=linA a b 0 120:=by
 refine list_ext0 (by rw[intA_len,qu_len,linA_len]) fun k hk=> ?_
 rw[intA_len,qu_len] at hk
 rw[cl_get a b hk]
 rcases intA_get (a:=a) (b:=b) (qu:=hitA (linA a b 0 120) hs) (r:=hs) (fun h hm=>⟨(sep_mem hsep hm).1,(sep_mem hsep hm).2.1,(men_line hsep hm).1,(men_line hsep hm).2.1⟩) (hitA (linA a b 0 120) hs) qu_len k hk with h|⟨h,hn⟩
 ·exact h
 ·rw[h,qu_get hk,sumAt_none hn];omega
theorem dif_hits{ht he:List Int}(l1:ht.length=120)(l2:he.length=120): ∀(c i:Nat) (hs:List (List Int)) (lo:Int),i+c=120→sepH lo hs→(i:Int)≤lo→(∀k,i≤k→k<120→ht.getD k 0=he.getD k 0+sumAt hs k)→difA i (ht.drop i) (he.drop i)=hs.map fun h=>h.getD 0 0
 |0,i,hs,lo,hi,hsep,hlo,_=>by
  rw[List.drop_eq_nil_of_le (by omega)]
  cases hs with
  |nil=>rfl
  |cons h r=>have:=hsep.1;omega
 |c+1,i,hs,lo,hi,hsep,hlo,hk=>by
  have e:=difA_step (x:=ht) (y:=he) (i:=(i:Int)) (by omega) (by omega) (by omega)
  rw[Int.toNat_natCast,show((i:Int)+1).toNat=i+1 by omega,show((i:Int)+1)=((i+1:Nat):Int) by omega] at e
  rw[e,hk i (Nat.le_refl _) (by omega)]
  cases hs with
  |nil=>
   rw[show(he.getD i 0+sumAt [] i != he.getD i 0)=false by simp[sumAt],cond_false]
   exact dif_hits l1 l2 c (i+1) [] (lo+1) (by omega) trivial (by omega) fun k h1 h2=>hk k (by omega) h2
  |cons h r=>
   obtain⟨⟨h1,h2,h3,h4,h5⟩,hr⟩:=id hsep
   by_cases hc:(h.getD 0 0).toNat=i
   ·have hv:sumAt (h::r) i=h.getD 1 0:=by
     show(if(h.getD 0 0).toNat=i then h.getD 1 0 else 0)+sumAt r i=_
     rw[if_pos hc,sumAt_lo hr (by omega) (by omega),Int.add_zero]
    rw[hv,show(he.getD i 0+h.getD 1 0 != he.getD i 0)=true from bne_iff_ne.2 (by omega),cond_true]
    rw[dif_hits l1 l2 c (i+1) r (h.getD 0 0+12) (by omega) hr (by omega) fun k k1 k2=>by
     rw[hk k (by omega) k2]
     show he.getD k 0+((if(h.getD 0 0).toNat=k then h.getD 1 0 else 0)+sumAt r k)=_
     rw[if_neg (by omega),Int.zero_add]]
    rw[List.map_cons,show(i:Int)=h.getD 0 0 by omega]
   ·have hv:sumAt (h::r) i=0:=sumAt_lo (lo:=h.getD 0 0) (show sepH (h.getD 0 0) (h::r) from⟨⟨Int.le_refl _,h2,h3,h4,h5⟩,hr⟩) (by omega) (by omega)
    rw[hv,Int.add_zero,bne_self_eq_false,cond_false]
    exact dif_hits l1 l2 c (i+1) (h::r) (h.getD 0 0) (by omega) ⟨⟨Int.le_refl _,h2,h3,h4,h5⟩,hr⟩ (by omega) fun k k1 k2=>hk k (by omega) k2
end Go.Ev
namespace Go.Ev
open Go Go.Proofs
attribute [local irreducible] evFn evBody evRound
set_option maxRecDepth 20000
theorem allI_step{f:Int→Bool}{n i:Int}(h:i<n):allI f i (n-i).toNat=(f i&&allI f (i+1) (n-(i+1)).toNat):=by
 rw[show(n-i).toNat=(n-(i+1)).toNat+1 by omega];rfl
theorem allI_end{f:Int→Bool}{n i:Int}(h:¬i<n):allI f i (n-i).toNat=true:=by
 rw[show(n-i).toNat=0 by omega];rfl
theorem hitB_at{hs:List (List Int)}{i:Int}(h:hitB hs i=true):8≤(hs.getD i.toNat []).getD 0 0∧(hs.getD i.toNat []).getD 0 0≤111∧ -20000≤(hs.getD i.toNat []).getD 1 0∧(hs.getD i.toNat []).getD 1 0≤20000:=by
 unfold hitB withinG at h
 simp only[Bool.and_eq_true,decide_eq_true_eq] at h
 exact⟨h.1.1,h.1.2,h.2.1.1,h.2.1.2⟩
theorem loktco_0:LoopOK Etco (lb Try.f3 0) [2,3,4,7] [2,3,4,6] tcoA:=by
 refine loopOK (.cons okawk (.cons okwib (.cons okhue (.cons okszb (.cons okcph (.cons okcpi (.cons okaddD (.cons oksms (.cons okremD (.cons okclkD (.cons okmndD (.cons okints (.cons oktouD .nil))))))))))))) (noInner (by kernel_rfl)) (fun vs σ=>match vs,σ with
  |[.one (.data (.mat .i64 2 _)),.one (.ptr 0 1 0 0),.one (.ptr 1 1 0 0),.one (.int .i64 i)],[.row 22 (.ints .i64 _),.cells [.int .i64 _,.int .i64 _,.data (.ints .i64 t)]]=>(t.length-i).toNat
  |_,_=>0) fun vs σ k h=> ?_
 unfold tcoA at h
 split at h
 rotate_right
 ·exact h.elim
 ·rename_i hs i ab p hh t
  rw[extcol0a hs i ab p hh t _]
  obtain⟨⟨h1,h2⟩,h⟩:=h
  by_cases hi:i<(t.length:Int)
  ·rw[all_step h2 hi] at h
   rw[decide_eq_true hi,decide_eq_true h2,decide_eq_true (show i.toNat+0<t.length by omega),Nat.add_zero,wrap_id (by omega) (by omega)]
   simp only[Bool.and_self,cond_true]
   change bif !hunG (t.getD i.toNat 0) then _ else _
   cases hp:hunG (t.getD i.toNat 0) with
   |false=>rw[hp] at h;exact h
   |true=>rw[hp] at h;exact⟨⟨⟨h1,by omega⟩,h⟩,by show((t.length:Int)-(i+1)).toNat<((t.length:Int)-i).toNat;omega⟩
  ·rw[decide_eq_false hi]
   rw[List.drop_eq_nil_of_le (by omega)] at h
   exact h
theorem loktco_1:LoopOK Etco (lb Try.f3 1) [2,3,4,8] [2,3,4,6] tcoB:=by
 refine loopOK (.cons okawk (.cons okwib (.cons okhue (.cons okszb (.cons okcph (.cons okcpi (.cons okaddD (.cons oksms (.cons okremD (.cons okclkD (.cons okmndD (.cons okints (.cons oktouD .nil))))))))))))) (noInner (by kernel_rfl)) (fun vs σ=>match vs,σ with
  |[.one (.data (.mat .i64 2 hs)),.one (.ptr 0 1 0 0),.one (.ptr 1 1 0 0),.one (.int .i64 i)],[.row 22 (.ints .i64 _),.cells [.int .i64 _,.int .i64 _,.data (.ints .i64 _)]]=>(hs.length-i).toNat
  |_,_=>0) fun vs σ k h=> ?_
 unfold tcoB at h
 split at h
 rotate_right
 ·exact h.elim
 ·rename_i hs i ab p hh t
  rw[extcol1a hs i ab p hh t _]
  obtain⟨⟨h1,h2⟩,h⟩:=h
  by_cases hi:i<(hs.length:Int)
  ·rw[allI_step hi] at h
   have hB:hitB hs i=(withinG ((hs.getD i.toNat []).getD 0 0) 8 111&&(withinG ((hs.getD i.toNat []).getD 1 0) (-20000) 20000&&(!decide (sizeG ((hs.getD i.toNat []).getD 1 0)≤1600) && !(decide (i>0)&&decide (IntKind.i64.wrap ((hs.getD i.toNat []).getD 0 0-(hs.getD (i-1).toNat []).getD 0 0)<12))))):=rfl
   have hm:((hs.length:Int)-(i+1)).toNat<((hs.length:Int)-i).toNat:=by omega
   rw[hB] at h
   rw[decide_eq_true hi,decide_eq_true h2,decide_eq_true (show i.toNat<hs.length by omega),decide_eq_true (show 1<2 by decide),decide_eq_true (show 0<2 by decide),wrap_id (n:=i+1) (by omega) (by omega),wrap_id (n:=i-1) (by omega) (by omega)]
   simp only[Bool.and_self,cond_true]
   cases c1:withinG ((hs.getD i.toNat []).getD 0 0) 8 111 with
   |false=>rw[c1] at h;exact h
   |true=>
    cases c2:withinG ((hs.getD i.toNat []).getD 1 0) (-20000) 20000 with
    |false=>rw[c1,c2] at h;exact h
    |true=>
     cases c3:decide (sizeG ((hs.getD i.toNat []).getD 1 0)≤1600) with
     |true=>rw[c1,c2,c3] at h;exact h
     |false=>
      by_cases c4:i>0
      ·rw[decide_eq_true c4,decide_eq_true (show 0≤i-1 by omega),decide_eq_true (show i-1<(hs.length:Int) by omega),decide_eq_true (show(i-1).toNat<hs.length by omega)]
       simp only[Bool.not_true,cond_false,cond_true,Bool.and_self]
       cases c5:decide (IntKind.i64.wrap ((hs.getD i.toNat []).getD 0 0-(hs.getD (i-1).toNat []).getD 0 0)<12) with
       |true=>rw[c1,c2,c3,decide_eq_true c4,c5] at h;exact h
       |false=>rw[c1,c2,c3,decide_eq_true c4,c5] at h;exact⟨⟨⟨h1,by omega⟩,h⟩,hm⟩
      ·rw[decide_eq_false c4]
       rw[c1,c2,c3,decide_eq_false c4] at h
       exact⟨⟨⟨h1,by omega⟩,h⟩,hm⟩
  ·rw[decide_eq_false hi]
   rw[allI_end hi] at h
   exact h
theorem lin_step{a b i:Int}(h:i<120):linA a b i (120-i).toNat=(a+b*i)::linA a b (i+1) (120-(i+1)).toNat:=by
 rw[show(120-i).toNat=(120-(i+1)).toNat+1 by omega];rfl
theorem ab_bd{ab:List Int}(h:okAB ab){i:Int}(h0:0≤i)(h1:i<120):IntKind.i64.wrap (ab.getD 0 0+IntKind.i64.wrap (ab.getD 1 0*i))=ab.getD 0 0+ab.getD 1 0*i:=by
 obtain⟨_,a1,a2,a3,a4⟩:=h
 have hb:=bk (a:=ab.getD 0 0) (b:=ab.getD 1 0) ⟨a1,a2,a3,a4⟩ (k:=i.toNat) (by omega)
 rw[show((i.toNat:Nat):Int)=i by omega] at hb
 rw[wrap_id (n:=ab.getD 1 0*i) (by omega) (by omega),wrap_id (by omega) (by omega)]
theorem loktco_2:LoopOK Etco (lb Try.f3 2) [2,3,4,10,12] [2,4,10] tcoC:=by
 refine loopOK (.cons okawk (.cons okwib (.cons okhue (.cons okszb (.cons okcph (.cons okcpi (.cons okaddD (.cons oksms (.cons okremD (.cons okclkD (.cons okmndD (.cons okints (.cons oktouD .nil))))))))))))) (noInner (by kernel_rfl)) (fun vs σ=>match vs,σ with
  |[.one (.data (.mat .i64 2 _)),.one (.ptr 0 1 0 0),.one (.ptr 1 1 0 0),.one .nil,.one (.int .i64 i)],[.row 22 (.ints .i64 _),.cells [.int .i64 _,.int .i64 _,.data (.ints .i64 _)]]=>(120-i).toNat
  |[.one (.data (.mat .i64 2 _)),.one (.ptr 0 1 0 0),.one (.ptr 1 1 0 0),.one (.own 2 1),.one (.int .i64 i)],[.row 22 (.ints .i64 _),.cells [.int .i64 _,.int .i64 _,.data (.ints .i64 _)],.row 3 (.ints .i64 _)]=>(120-i).toNat
  |_,_=>0) fun vs σ k h=> ?_
 unfold tcoC at h
 split at h
 rotate_right
 ·exact h.elim
 ·rename_i hs i ab p hh t
  rw[extcol2a hs i ab p hh t _]
  obtain⟨⟨h1,rfl⟩,hk⟩:=h
  have hl:=h1.1
  have e:=lin_step (a:=ab.getD 0 0) (b:=ab.getD 1 0) (i:=0) (by decide)
  rw[show(120-(0:Int)).toNat=120 by decide] at e
  rw[e] at hk
  rw[decide_eq_true (show(0:Int)<120 by decide),decide_eq_true (show 0<ab.length by omega),decide_eq_true (show 1<ab.length by omega),ab_bd h1 (by decide) (by decide),wrap_id (n:=(0:Int)+1) (by decide) (by decide)]
  simp only[cond_true]
  exact⟨⟨⟨h1,by decide,by decide,by rw[List.length_singleton];rfl⟩,hk⟩,by show(120-((0:Int)+1)).toNat<(120-(0:Int)).toNat;decide⟩
 ·rename_i hs i ab p hh t out
  rw[extcol2b hs i ab p hh t out _]
  obtain⟨⟨h1,h2,h3,h4⟩,hk⟩:=h
  have hl:=h1.1
  by_cases hi:i<120
  ·rw[lin_step hi,snoc_app] at hk
   rw[decide_eq_true hi,decide_eq_true (show 0<ab.length by omega),decide_eq_true (show 1<ab.length by omega),ab_bd h1 (by omega) hi,wrap_id (n:=i+1) (by omega) (by omega),room8 (by omega)]
   simp only[cond_true]
   exact⟨⟨⟨h1,by omega,by omega,by rw[len_snoc];omega⟩,hk⟩,by show(120-(i+1)).toNat<(120-i).toNat;omega⟩
  ·rw[decide_eq_false hi]
   rw[show(120-i).toNat=0 by omega,show linA (ab.getD 0 0) (ab.getD 1 0) i 0=[] from rfl,List.append_nil] at hk
   exact hk
theorem nearB_at{m:Int}{l:List Int}(h:nearB m l=true){k:Nat}(hk:k<l.length): -m≤l.getD k 0∧l.getD k 0≤m:=by
 have:=all_at (p:=fun n=>withinG n (-m) m) h hk
 unfold withinG at this
 simpa only[Bool.and_eq_true,decide_eq_true_eq] using this
theorem loktco_3:LoopOK Etco (lb Try.f3 3) [2,4,10,11,14,15] [2,4,10,11,14] tcoD:=by
 refine loopOK (.cons okawk (.cons okwib (.cons okhue (.cons okszb (.cons okcph (.cons okcpi (.cons okaddD (.cons oksms (.cons okremD (.cons okclkD (.cons okmndD (.cons okints (.cons oktouD .nil))))))))))))) (noInner (by kernel_rfl)) (fun vs σ=>match vs,σ with
  |[.one (.data (.mat .i64 2 hs)),.one (.ptr 0 1 0 0),.one (.own 1 1),.one (.data (.ints .i64 _)),.one (.own 2 1),.one (.int .i64 i)],[.cells [.int .i64 _,.int .i64 _,.data (.ints .i64 _)],.row 3 (.ints .i64 _),.row 3 (.ints .i64 _)]=>(hs.length-i).toNat
  |_,_=>0) fun vs σ k h=> ?_
 unfold tcoD at h
 split at h
 rotate_right
 ·exact h.elim
 ·rename_i hs he i p hh t cl ht
  rw[extcol3a hs he i p hh t cl ht _]
  obtain⟨⟨h1,h2,h3,h4,h5⟩,hk⟩:=h
  by_cases hi:i<(hs.length:Int)
  ·rw[allI_step hi,Bool.and_eq_true] at h4
   obtain⟨b1,b2,b3,b4⟩:=hitB_at h4.1
   rw[drop_step [] (show i.toNat<hs.length by omega),show i.toNat+1=(i+1).toNat by omega] at hk
   simp only[hitA] at hk
   have hb:=nearB_at h5 (show((hs.getD i.toNat []).getD 0 0).toNat<ht.length by omega)
   rw[decide_eq_true hi,decide_eq_true h2,decide_eq_true (show i.toNat<hs.length by omega),decide_eq_true (show 1<2 by decide),decide_eq_true (show 0<2 by decide),decide_eq_true (show 0≤(hs.getD i.toNat []).getD 0 0 by omega),decide_eq_true (show(hs.getD i.toNat []).getD 0 0<(ht.length:Int) by omega),decide_eq_true (show((hs.getD i.toNat []).getD 0 0).toNat+0<ht.length by omega),Nat.add_zero,wrap_id (n:=i+1) (by omega) (by omega),wrap_id (n:=ht.getD ((hs.getD i.toNat []).getD 0 0).toNat 0+(hs.getD i.toNat []).getD 1 0) (by omega) (by omega)]
   simp only[Bool.and_self,cond_true]
   refine⟨⟨⟨h1,by omega,by rw[List.length_set];exact h3,h4.2,?_⟩,hk⟩,by show((hs.length:Int)-(i+1)).toNat<((hs.length:Int)-i).toNat;omega⟩
   refine all_of_get fun k hkl=> ?_
   rw[List.length_set] at hkl
   have hbk:=nearB_at h5 hkl
   rw[getSet _ _ _ _ hkl]
   unfold withinG
   split
   ·rw[decide_eq_true (by omega),decide_eq_true (by omega)];rfl
   ·rw[decide_eq_true (by omega),decide_eq_true (by omega)];rfl
  ·rw[decide_eq_false hi]
   rw[List.drop_eq_nil_of_le (by omega)] at hk
   exact hk
theorem loktco_4:LoopOK Etco (lb Try.f3 4) [2,4,10,11,14,16,18,19,21] [2,4,6,10,11,14,16,18] tcoE:=by
 refine loopOK (.cons okawk (.cons okwib (.cons okhue (.cons okszb (.cons okcph (.cons okcpi (.cons okaddD (.cons oksms (.cons okremD (.cons okclkD (.cons okmndD (.cons okints (.cons oktouD .nil))))))))))))) (noInner (by kernel_rfl)) (fun vs σ=>match vs,σ with
  |[.one (.data (.mat .i64 2 hs)),.one (.ptr 0 1 0 0),.one (.own 1 1),.one (.data (.ints .i64 _)),.one (.own 2 1),.one (.data (.ints .i64 _)),.one (.ptr 3 1 0 0),.one (.data (.mat .i64 4 _)),.one (.int .i64 i)],[.cells [.int .i64 _,.int .i64 _,.data (.ints .i64 _)],.row 3 (.ints .i64 _),.row 3 (.ints .i64 _),.cells [.int .i64 _,.int .i64 _,.int .i64 _,.int .i64 _,.int .i64 _,.int .i64 _]]=>(hs.length-i).toNat
  |_,_=>0) fun vs σ k h=> ?_
 unfold tcoE at h
 split at h
 rotate_right
 ·exact h.elim
 ·rename_i hs he qu rs i p hh t cl ht kd w th jo mo pe
  rw[extcol4a hs he qu rs i p hh t cl ht kd w th jo mo pe _]
  obtain⟨⟨h1,h2,rfl,h4⟩,hk⟩:=h
  have hl:(hs.map runOf).length=hs.length:=List.length_map _
  by_cases hi:i<(hs.length:Int)
  ·rw[allI_step hi,Bool.and_eq_true] at h4
   obtain⟨b1,b2,b3,b4⟩:=hitB_at h4.1
   have er:(hs.map runOf).getD i.toNat []=runOf (hs.getD i.toNat []):=by
    rw[getD_of_lt (by rw[hl];omega),getD_of_lt (show i.toNat<hs.length by omega),List.getElem_map]
   have hs1:=sizeG_abs (n:=(hs.getD i.toNat []).getD 1 0) (by omega) (by omega)
   have hs2:0≤sizeG ((hs.getD i.toNat []).getD 1 0)∧sizeG ((hs.getD i.toNat []).getD 1 0)≤20000:=by
    rw[hs1];split<;>omega
   rw[er,hl,decide_eq_true hi,decide_eq_true h2,decide_eq_true (show i.toNat<hs.length by omega),decide_eq_true (show 1<2 by decide),decide_eq_true (show 0<2 by decide),decide_eq_true (show 1<4 by decide),decide_eq_true (show 2<4 by decide),decide_eq_true (show 3<4 by decide),wrap_id (n:=i+1) (by omega) (by omega),wrap_id (n:=(hs.getD i.toNat []).getD 0 0-1) (by omega) (by omega),wrap_id (n:=(hs.getD i.toNat []).getD 0 0+1) (by omega) (by omega),wrap_id (n:=2*sizeG ((hs.getD i.toNat []).getD 1 0)) (by omega) (by omega)]
   simp only[runOf,List.getD_cons_zero,List.getD_cons_succ,beq_self_eq_true,bne_self_eq_false,Bool.and_self,cond_true,cond_false,Bool.not_true]
   exact⟨⟨⟨h1,by omega,rfl,h4.2⟩,hk⟩,by show((hs.length:Int)-(i+1)).toNat<((hs.length:Int)-i).toNat;omega⟩
  ·rw[hl,decide_eq_false hi]
   exact hk
theorem loktco_5:LoopOK Etco (lb Try.f3 5) [2,26,28] [6] tcoF:=by
 refine loopOK (.cons okawk (.cons okwib (.cons okhue (.cons okszb (.cons okcph (.cons okcpi (.cons okaddD (.cons oksms (.cons okremD (.cons okclkD (.cons okmndD (.cons okints (.cons oktouD .nil))))))))))))) (noInner (by kernel_rfl)) (fun vs σ=>match vs,σ with
  |[.one (.data (.mat .i64 2 hs)),.one (.data (.ints .i64 _)),.one (.int .i64 i)],[]=>(hs.length-i).toNat
  |_,_=>0) fun vs σ k h=> ?_
 unfold tcoF at h
 split at h
 rotate_right
 ·exact h.elim
 ·rename_i hs tl i
  rw[extcol5a hs tl i _]
  obtain⟨⟨h1,h2,rfl⟩,hk⟩:=h
  have hl:(hs.map fun h=>h.getD 0 0).length=hs.length:=List.length_map _
  by_cases hi:i<(hs.length:Int)
  ·have er:(hs.map fun h=>h.getD 0 0).getD i.toNat 0=(hs.getD i.toNat []).getD 0 0:=by
    rw[getD_of_lt (by rw[hl];omega),getD_of_lt (show i.toNat<hs.length by omega),List.getElem_map]
   rw[hl,Nat.add_zero,er,decide_eq_true hi,decide_eq_true h2,decide_eq_true (show i.toNat<hs.length by omega),decide_eq_true (show 0<2 by decide),wrap_id (n:=i+1) (by omega) (by omega)]
   simp only[Bool.and_self,cond_true,bne_self_eq_false,cond_false]
   exact⟨⟨⟨h1,by omega,rfl⟩,hk⟩,by show((hs.length:Int)-(i+1)).toNat<((hs.length:Int)-i).toNat;omega⟩
  ·rw[hl,decide_eq_false hi]
   exact hk
end Go.Ev
namespace Go.Ev
open Go Go.Proofs
attribute [local irreducible] evFn evBody evRound
set_option maxRecDepth 20000
theorem cnt3: ∀(hs:List (List Int)),cntG ((hs.map runOf).map mkOf)=3*hs.length
 |[]=>rfl
 |h::r=>by
  have e:cntG (((h::r).map runOf).map mkOf)=((h.getD 0 0+1)-(h.getD 0 0-1)+1)+cntG ((r.map runOf).map mkOf):=rfl
  rw[e,cnt3 r,List.length_cons]
  omega
theorem Z_ok{a b p hh:Int}{t:List Int}{hs:List (List Int)}{K:AV→List Blk→Prop}(hab:abOk a b)(hhum:humE p hh t=0)(h100:t.all hunG=true)(ht64:t.length≤64)(h8:hs.length≤8)(hall:allI (hitB hs) 0 hs.length=true)
  (hsm:(hitA (cmbF p hh t 1 0 (linA a b 0 120)) hs).all sampleG=true) (hq:(hitA (linA a b 0 120) hs).all sampleG=true) (hk:KT K true):
  tcoW p hh t hs (linA a b 0 120) (cmbF p hh t 1 0 (linA a b 0 120)) (hitA (cmbF p hh t 1 0 (linA a b 0 120)) hs) (hitA (linA a b 0 120) hs) K:=by
 have hsep:=sep_of hall
 have G1:runsG 1 800 2 (hitA (linA a b 0 120) hs)=hs.map runOf:=runs_line hab hsep qu_len fun k hk=>qu_get hk
 have E3:errE (hitA (linA a b 0 120) hs)=0:=errE_mk (by rw[qu_len];decide) hq
 have G2:clkR 1 800 2 (hitA (linA a b 0 120) hs)=hs.map runOf:=by unfold clkR;rw[E3,G1];rfl
 have M1:=mend_line (a:=a) (b:=b) hsep
 have E1:=he_E hab hhum h100
 have R1:=he_R hab hhum h100
 have lq:(hitA (linA a b 0 120) hs).length=120:=qu_len
 have lh:(cmbF p hh t 1 0 (linA a b 0 120)).length=120:=he_len
 have lt:(hitA (cmbF p hh t 1 0 (linA a b 0 120)) hs).length=120:=by rw[hitA_len,lh]
 have lm:(hs.map runOf).length=hs.length:=List.length_map _
 have ok1:(hs.map runOf).all (okRun 8)=true:=by
  refine List.all_eq_true.2 fun r hr=> ?_
  obtain⟨h,hm,rfl⟩:=List.mem_map.1 hr
  have:=sep_mem hsep hm
  show(decide (4=4)&&(decide (0≤h.getD 0 0-1)&&(decide (h.getD 0 0-1≤h.getD 0 0+1)&&(decide (h.getD 0 0+1≤1000)&&decide (h.getD 0 0+1-(h.getD 0 0-1)<8)))))=true
  rw[decide_eq_true (show 0≤h.getD 0 0-1 by omega),decide_eq_true (show h.getD 0 0-1≤h.getD 0 0+1 by omega),decide_eq_true (show h.getD 0 0+1≤1000 by omega),decide_eq_true (show h.getD 0 0+1-(h.getD 0 0-1)<8 by omega)]
  rfl
 have ok2:((hs.map runOf).map mkOf).all okMk=true:=by
  refine List.all_eq_true.2 fun r hr=> ?_
  obtain⟨q,hq2,rfl⟩:=List.mem_map.1 hr
  obtain⟨h,hm,rfl⟩:=List.mem_map.1 hq2
  have:=sep_mem hsep hm
  refine okMk_iff.2 ?_
  show 0≤h.getD 0 0-1∧h.getD 0 0-1≤h.getD 0 0+1∧h.getD 0 0+1≤1000
  omega
 have okC:okClk 1 0 800 2 8 100 (hitA (linA a b 0 120) hs):=⟨.inr ⟨rfl,rfl,rfl,rfl,rfl,rfl⟩,by omega,fun h=>absurd h (by decide),fun _=>by rw[G1];exact⟨ok1,by omega⟩⟩
 have okM:mndOk 1 0 800 2 8 100 (hitA (linA a b 0 120) hs):=by
  refine⟨okC,E3,by omega,?_,?_,?_,?_,?_⟩
  ·rw[G1,cnt3,lq];omega
  ·rw[G1];omega
  ·rw[G1];unfold singE
   rw[cnt3,lq,decide_eq_true (show((120:Nat):Int)-3*(hs.length:Int)≥2 by omega),Bool.or_true];rfl
  ·rw[G1];exact ok2
  ·rw[G1]
   intro m hm
   obtain⟨q,hq2,rfl⟩:=List.mem_map.1 hm
   obtain⟨h,hm2,rfl⟩:=List.mem_map.1 hq2
   exact mk_line hab hsep hq hm2
 have hdif:difA 0 (hitA (cmbF p hh t 1 0 (linA a b 0 120)) hs) (cmbF p hh t 1 0 (linA a b 0 120))=hs.map fun h=>h.getD 0 0:=by
  have:=dif_hits lt lh 120 0 hs 8 (by decide) hsep (by decide) fun k _ hk=>by rw[hitA_get _ _ _ (by rw[lh];exact hk)]
  rwa [List.drop_zero,List.drop_zero] at this
 have hte:touE (hitA (cmbF p hh t 1 0 (linA a b 0 120)) hs) (cmbF p hh t 1 0 (linA a b 0 120))=0:=by
  unfold touE
  rw[errE_mk (by omega) hsm,errE_mk (by omega) (he_smp hab hhum h100),lt,lh];rfl
 have htr:touR (hitA (cmbF p hh t 1 0 (linA a b 0 120)) hs) (cmbF p hh t 1 0 (linA a b 0 120))=hs.map fun h=>h.getD 0 0:=by
  unfold touR
  rw[hte,hdif];rfl
 have lc:(linA a b 0 120).length=120:=linA_len _ _ _ _
 unfold tcoW
 rw[G1,M1,R1]
 unfold tcoZ
 rw[E3,G2,E1,hte,htr,Int.sub_zero,Int.toNat_natCast,hall,lm,show(hs.map fun h=>h.getD 0 0).length=hs.length from List.length_map _,lq,lc,lt,lh]
 simp only[bne_self_eq_false,cond_false,beq_self_eq_true,Bool.not_true]
 exact⟨by decide,okC,⟨h8,by decide,trivial,trivial⟩,by decide,okM,by decide,by decide,⟨by omega,by decide⟩,by decide,by decide,⟨by decide,by decide⟩,by decide,⟨h8,by decide,trivial⟩,hk⟩
theorem oktco:SpecOK Try.prog 3 tcoS:=by
 refine specOKd (n:=328) (m:=0) (lps:=[(6,.spec [2,3,4,7] [2,3,4,6] tcoA),(11,.spec [2,3,4,8] [2,3,4,6] tcoB),(20,.spec [2,3,4,10,12] [2,4,10] tcoC),(28,.spec [2,4,10,11,14,15] [2,4,10,11,14] tcoD),(41,.spec [2,4,10,11,14,16,18,19,21] [2,4,6,10,11,14,16,18] tcoE),(53,.spec [2,26,28] [6] tcoF)]) [8,12,13,14,16] (.cons okawk (.cons okwib (.cons okhue (.cons okszb (.cons okcph (.cons okcpi (.cons okaddD (.cons oksms (.cons okremD (.cons okclkD (.cons okmndD (.cons okints (.cons oktouD .nil))))))))))))) Try.func3 (by kernel_rfl) (by kernel_rfl) (theLoops (n:=6) (by kernel_rfl) fun i hi=> ?_) fun args σ K h=> ?_
 ·match i,hi with
  |0,_=>exact loopHyp_of (key:=6) (by kernel_rfl) rfl loktco_0
  |1,_=>exact loopHyp_of (key:=11) (by kernel_rfl) rfl loktco_1
  |2,_=>exact loopHyp_of (key:=20) (by kernel_rfl) rfl loktco_2
  |3,_=>exact loopHyp_of (key:=28) (by kernel_rfl) rfl loktco_3
  |4,_=>exact loopHyp_of (key:=41) (by kernel_rfl) rfl loktco_4
  |5,_=>exact loopHyp_of (key:=53) (by kernel_rfl) rfl loktco_5
 unfold tcoS at h
 split at h
 rotate_right
 ·exact h.elim
 ·rename_i a b p hh t hs
  rw[extcoS a b p hh t hs K]
  unfold tcoX
  cases c1:withinG a (-2000) 2000 with
  |false=>exact h
  |true=>
  cases c2:withinG b (-20) 20 with
  |false=>exact h
  |true=>
  by_cases c3:(t.length:Int)>64
  ·rw[decide_eq_true c3];exact h
  rw[decide_eq_false c3]
  refine And.intro (show t.length≤1000000 by omega) ?_
  cases c4:humE p hh t != 0 with
  |true=>exact h
  |false=>
  by_cases c5:(hs.length:Int)>8
  ·rw[decide_eq_true c5];exact h
  rw[decide_eq_false c5]
  refine And.intro ⟨show t.length≤1000 by omega,Int.le_refl 0⟩ ?_
  cases c6:t.all hunG with
  |false=>exact h
  |true=>
  refine And.intro ⟨show hs.length≤8 by omega,Int.le_refl 0⟩ ?_
  rw[Int.sub_zero,Int.toNat_natCast]
  cases c7:allI (hitB hs) 0 hs.length with
  |false=>exact h
  |true=>
  rw[cond_true]
  have hab:abOk a b:=by
   unfold withinG at c1 c2
   simp only[Bool.and_eq_true,decide_eq_true_eq] at c1 c2
   exact⟨c1.1,c1.2,c2.1,c2.2⟩
  have hhum:humE p hh t=0:=by simpa using c4
  have lc:(linA a b 0 120).length=120:=linA_len _ _ _ _
  have lh:(cmbF p hh t 1 0 (linA a b 0 120)).length=120:=he_len
  have lt:(hitA (cmbF p hh t 1 0 (linA a b 0 120)) hs).length=120:=by rw[hitA_len,lh]
  rw[he_R hab hhum c6]
  unfold tcoY
  rw[he_E hab hhum c6,lc,lh]
  refine⟨⟨⟨rfl,hab⟩,rfl⟩,by omega,by decide,⟨by omega,by decide⟩,?_⟩
  show tcoV p hh t hs _ _ _ K
  unfold tcoV
  rw[lh,lt,Int.sub_zero,Int.toNat_natCast,c7]
  refine⟨by decide,⟨by omega,by decide,rfl,rfl,he_near hab hhum c6⟩,by decide,?_⟩
  cases c8:(hitA (cmbF p hh t 1 0 (linA a b 0 120)) hs).all sampleG with
  |false=>exact h
  |true=>
  refine And.intro (show t.length≤1000000 by omega) ⟨by decide,⟨by omega,by decide⟩,?_⟩
  have e9:cmbE p hh t (-1) (hitA (cmbF p hh t 1 0 (linA a b 0 120)) hs)=bif (hitA (linA a b 0 120) hs).all sampleG then 0 else 23:=by
   rw[cmbE_mk hhum (by omega) c8,qu_eq]
  have e10:cmbR p hh t (-1) (hitA (cmbF p hh t 1 0 (linA a b 0 120)) hs)=bif (hitA (linA a b 0 120) hs).all sampleG then hitA (linA a b 0 120) hs else[]:=by
   unfold cmbR
   rw[e9,qu_eq]
   cases (hitA (linA a b 0 120) hs).all sampleG<;>rfl
  rw[e9,e10]
  cases c9:(hitA (linA a b 0 120) hs).all sampleG with
  |false=>exact h
  |true=>exact Z_ok hab hhum c6 (by omega) (by omega) c7 c8 c9 h
end Go.Ev
