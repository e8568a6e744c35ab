/-
  Part of the proof that TopTransferMended holds.
-/
import Derived.Test.YtmailpnpjcpodaaGreatDoorT35
set_option linter.unusedVariables false
set_option linter.unusedSimpArgs false
set_option linter.unusedSectionVars false
namespace Go.Ev
open Go Go.Proofs
attribute [local irreducible] evFn evBody evRound
set_option maxRecDepth 20000
theorem digB_no: ∀{l:List UInt8},digB l=true→hasB 32 l=false
 |[],_=>rfl
 |b::l,h=>by
  unfold digB at h
  rw[Bool.and_eq_true] at h
  have hb:=dgB_iff.1 h.1
  unfold hasB
  rw[if_neg (fun e=>by subst e;revert hb;decide),digB_no h.2]
theorem itoG_no(v:Int):hasB 32 (itoG v)=false:=by
 unfold itoG Lib.itoa
 by_cases h:v<0
 ·rw[if_pos h]
  unfold hasB
  rw[if_neg (by decide)]
  exact digB_no (dec_facts _).1
 ·rw[if_neg h]
  exact digB_no (dec_facts _).1
theorem dec_len: ∀(k m:Nat),m<10^(k+1)→(Lib.decDigits m).length≤k+1
 |0,m,h=>by rw[Lib.decDigits,dif_pos (by simpa using h)];simp
 |k+1,m,h=>by
  rw[Lib.decDigits]
  by_cases hm:m<10
  ·rw[dif_pos hm];simp
  ·rw[dif_neg hm,List.length_append]
   have:=dec_len k (m/10) (Nat.div_lt_of_lt_mul (by rw[Nat.mul_comm,← Nat.pow_succ];exact h))
   simp only[List.length_cons,List.length_nil];omega
theorem tpG_le(s:List UInt8):(tpG s).length≤s.length:=by
 unfold tpG Lib.trimPrefix
 split
 ·rw[List.length_drop];omega
 ·exact Nat.le_refl _
theorem tp_len{v:Int}(h: -1000000<v∧v<1000000):(tpG (itoG v)).length≤6:=by
 unfold itoG Lib.itoa
 by_cases hv:v<0
 ·rw[if_pos hv]
  have ht:tpG (45::Lib.decDigits v.natAbs)=Lib.decDigits v.natAbs:=by
   unfold tpG Lib.trimPrefix
   rw[if_pos (by show((45:UInt8)==45&&List.isPrefixOf [] (Lib.decDigits v.natAbs))=true;simp)];rfl
  rw[ht]
  exact dec_len 5 _ (by show v.natAbs<1000000;omega)
 ·rw[if_neg hv]
  exact Nat.le_trans (tpG_le _) (dec_len 5 _ (by show v.toNat<1000000;omega))
theorem num_small{v:Int}(h: -1000000<v∧v<1000000):numB (itoG v) 6=true∧numV (itoG v) 6=v:=num_of rfl (tp_len h)
theorem pcs_app{c:UInt8}: ∀(s t:List UInt8),hasB c s=false→pcs c (s++c::t)=s::pcs c t
 |[],t,_=>by rw[List.nil_append,pcs,if_pos rfl]
 |x::s,t,h=>by
  unfold hasB at h
  by_cases hx:x=c
  ·rw[if_pos hx] at h;cases h
  ·rw[if_neg hx] at h
   rw[List.cons_append,pcs,if_neg hx,pcs_app s t h]
theorem pcs_jnR: ∀(r:List Int) (x:Int),pcs 32 (itoG x++jnR false r)=(x::r).map itoG
 |[],x=>by
  show pcs 32 (itoG x++[])=_
  rw[List.append_nil,pcs_no (itoG_no x)];rfl
 |y::r,x=>by
  show pcs 32 (itoG x++([32]++itoG y++jnR false r))=_
  rw[show itoG x++([32]++itoG y++jnR false r)=itoG x++32::(itoG y++jnR false r) from rfl,pcs_app _ _ (itoG_no x),pcs_jnR r y];rfl
theorem pcs_blk(x:Int)(r:List Int):pcs 32 (fmbG (x::r))=(x::r).map itoG:=by
 rw[← jnR_join]
 exact pcs_jnR r x
theorem par_blk{c ch x0 x1 x2 x3 x4 x5 x6 x7 sm:Int}(h:blockE c ch [x0,x1,x2,x3,x4,x5,x6,x7] sm=0):pbE (fmbG [c,ch,x0,x1,x2,x3,x4,x5,x6,x7,sm])=0∧pbV (fmbG [c,ch,x0,x1,x2,x3,x4,x5,x6,x7,sm]) 0=c∧pbV (fmbG [c,ch,x0,x1,x2,x3,x4,x5,x6,x7,sm]) 1=ch∧pbV (fmbG [c,ch,x0,x1,x2,x3,x4,x5,x6,x7,sm]) 2=x0∧pbV (fmbG [c,ch,x0,x1,x2,x3,x4,x5,x6,x7,sm]) 3=x1∧pbV (fmbG [c,ch,x0,x1,x2,x3,x4,x5,x6,x7,sm]) 4=x2∧pbV (fmbG [c,ch,x0,x1,x2,x3,x4,x5,x6,x7,sm]) 5=x3∧pbV (fmbG [c,ch,x0,x1,x2,x3,x4,x5,x6,x7,sm]) 6=x4∧pbV (fmbG [c,ch,x0,x1,x2,x3,x4,x5,x6,x7,sm]) 7=x5∧pbV (fmbG [c,ch,x0,x1,x2,x3,x4,x5,x6,x7,sm]) 8=x6∧pbV (fmbG [c,ch,x0,x1,x2,x3,x4,x5,x6,x7,sm]) 9=x7∧pbV (fmbG [c,ch,x0,x1,x2,x3,x4,x5,x6,x7,sm]) 10=sm:=by
 have hc:contentG c ch [x0,x1,x2,x3,x4,x5,x6,x7]=true:=by
  cases e:contentG c ch [x0,x1,x2,x3,x4,x5,x6,x7] with
  |true=>rfl
  |false=>unfold blockE at h;rw[e,cond_false] at h;exact absurd h (by decide)
 have hs:sm=sumG c ch [x0,x1,x2,x3,x4,x5,x6,x7]:=by
  unfold blockE at h
  rw[hc,cond_true] at h
  cases e:sm != sumG c ch [x0,x1,x2,x3,x4,x5,x6,x7] with
  |true=>rw[e,cond_true] at h;exact absurd h (by decide)
  |false=>simpa using e
 have hm:=sumG_mod hc
 obtain⟨r0,r1,r2,r3,r4,r5,r6,r7,r8,r9⟩:=content_range hc
 have r10:0≤sm∧sm<65537:=by
  rw[hs,hm]
  omega
 clear hs hm
 have hp:=pcs_blk c [ch,x0,x1,x2,x3,x4,x5,x6,x7,sm]
 have hf: ∃u,u=fmbG [c,ch,x0,x1,x2,x3,x4,x5,x6,x7,sm]:=⟨_,rfl⟩
 obtain⟨u,hu⟩:=hf
 rw[← hu] at hp ⊢
 have i0:pcI u 0=itoG c:=by unfold pcI;rw[hp];rfl
 have n0:=num_small (v:=c) (by omega)
 have i1:pcI u 1=itoG ch:=by unfold pcI;rw[hp];rfl
 have n1:=num_small (v:=ch) (by omega)
 have i2:pcI u 2=itoG x0:=by unfold pcI;rw[hp];rfl
 have n2:=num_small (v:=x0) (by omega)
 have i3:pcI u 3=itoG x1:=by unfold pcI;rw[hp];rfl
 have n3:=num_small (v:=x1) (by omega)
 have i4:pcI u 4=itoG x2:=by unfold pcI;rw[hp];rfl
 have n4:=num_small (v:=x2) (by omega)
 have i5:pcI u 5=itoG x3:=by unfold pcI;rw[hp];rfl
 have n5:=num_small (v:=x3) (by omega)
 have i6:pcI u 6=itoG x4:=by unfold pcI;rw[hp];rfl
 have n6:=num_small (v:=x4) (by omega)
 have i7:pcI u 7=itoG x5:=by unfold pcI;rw[hp];rfl
 have n7:=num_small (v:=x5) (by omega)
 have i8:pcI u 8=itoG x6:=by unfold pcI;rw[hp];rfl
 have n8:=num_small (v:=x6) (by omega)
 have i9:pcI u 9=itoG x7:=by unfold pcI;rw[hp];rfl
 have n9:=num_small (v:=x7) (by omega)
 have i10:pcI u 10=itoG sm:=by unfold pcI;rw[hp];rfl
 have n10:=num_small (v:=sm) (by omega)
 have hall:nbA u=true:=by
  unfold nbA nbB
  rw[hp,i0,i1,i2,i3,i4,i5,i6,i7,i8,i9,i10,n0.1,n0.2,n1.1,n1.2,n2.1,n2.2,n3.1,n3.2,n4.1,n4.2,n5.1,n5.2,n6.1,n6.2,n7.1,n7.2,n8.1,n8.2,n9.1,n9.2,n10.1,n10.2]
  rw[decide_eq_true (show c≥0 by omega),decide_eq_true (show ch≥0 by omega),decide_eq_true (show sm≥0 by omega)]
  rfl
 have hv:nbV u 0=c∧nbV u 1=ch∧nbV u 2=x0∧nbV u 3=x1∧nbV u 4=x2∧nbV u 5=x3∧nbV u 6=x4∧nbV u 7=x5∧nbV u 8=x6∧nbV u 9=x7∧nbV u 10=sm:=by
  unfold nbV
  exact⟨by rw[i0];exact n0.2,by rw[i1];exact n1.2,by rw[i2];exact n2.2,by rw[i3];exact n3.2,by rw[i4];exact n4.2,by rw[i5];exact n5.2,by rw[i6];exact n6.2,by rw[i7];exact n7.2,by rw[i8];exact n8.2,by rw[i9];exact n9.2,by rw[i10];exact n10.2⟩
 obtain⟨v0,v1,v2,v3,v4,v5,v6,v7,v8,v9,v10⟩:=hv
 have hE:pbE u=0:=by
  unfold pbE
  rw[hall,cond_true,v0,v1,v2,v3,v4,v5,v6,v7,v8,v9,v10]
  exact h
 refine⟨hE,by unfold pbV;rw[hE];exact v0,by unfold pbV;rw[hE];exact v1,by unfold pbV;rw[hE];exact v2,by unfold pbV;rw[hE];exact v3,by unfold pbV;rw[hE];exact v4,by unfold pbV;rw[hE];exact v5,by unfold pbV;rw[hE];exact v6,by unfold pbV;rw[hE];exact v7,by unfold pbV;rw[hE];exact v8,by unfold pbV;rw[hE];exact v9,by unfold pbV;rw[hE];exact v10⟩
theorem all64_nil:all64 []:=fun _ h=>by cases h
theorem all64_cons{n:Int}{l:List Int}(h:i64B n)(t:all64 l):all64 (n::l):=fun x hx=>by
 rcases List.mem_cons.1 hx with rfl|hx
 ·exact h
 ·exact t x hx
theorem fmb_len{c ch x0 x1 x2 x3 x4 x5 x6 x7 sm:Int}(h:all64 [c,ch,x0,x1,x2,x3,x4,x5,x6,x7,sm]):(fmbG [c,ch,x0,x1,x2,x3,x4,x5,x6,x7,sm]).length≤1000000:=by
 have h2:=jnR_len true [c,ch,x0,x1,x2,x3,x4,x5,x6,x7,sm] h
 rw[jnR_join] at h2
 exact Nat.le_trans h2 (by simp)
end Go.Ev
namespace Go.Ev
open Go Go.Proofs
attribute [local irreducible] evFn evBody evRound
set_option maxRecDepth 20000
theorem oktaw:SpecOK Tryz.prog 17 tawS:=by
 refine specOK (n:=29) (m:=0) (lps:=[]) (.cons ok28V (.cons ok39 .nil)) Tryz.func17 (by kernel_rfl) (by kernel_rfl) (noLoops (by kernel_rfl)) fun args σ K h=> ?_
 unfold tawS at h
 split at h
 rotate_right
 ·exact h.elim
 rw[extaw K]
 intro c B hc hB
 subst hc hB
 rw[cond_true,show((packG [3,4,5,6,7,8,9,10]).length:Int)==24 by decide +kernel]
 exact h
theorem good_facts{b:List Int}(h11:b.length=11)(hg:goodX b=true):blockE (b.getD 0 0) (b.getD 1 0) (samX b) (b.getD 10 0)=0∧contentG (b.getD 0 0) (b.getD 1 0) (samX b)=true∧(samX b).all sampleG=true:=by
 have h1:blockE (b.getD 0 0) (b.getD 1 0) (samX b) (b.getD 10 0)=0:=eq_of_beq hg
 have h2:contentG (b.getD 0 0) (b.getD 1 0) (samX b)=true:=by
  cases e:contentG (b.getD 0 0) (b.getD 1 0) (samX b) with
  |true=>rfl
  |false=>unfold blockE at h1;rw[e,cond_false] at h1;exact absurd h1 (by decide)
 refine⟨h1,h2,?_⟩
 unfold contentG at h2
 rw[Bool.and_eq_true] at h2
 exact h2.2
theorem good_all64{b:List Int}(h11:b.length=11)(hg:goodX b=true):all64 [b.getD 0 0,b.getD 1 0,b.getD 2 0,b.getD 3 0,b.getD 4 0,b.getD 5 0,b.getD 6 0,b.getD 7 0,b.getD 8 0,b.getD 9 0,b.getD 10 0]:=by
 obtain⟨h1,h2,_⟩:=good_facts h11 hg
 have hs:b.getD 10 0=sumG (b.getD 0 0) (b.getD 1 0) (samX b):=by
  unfold blockE at h1
  rw[h2,cond_true] at h1
  cases e:b.getD 10 0 != sumG (b.getD 0 0) (b.getD 1 0) (samX b) with
  |true=>rw[e,cond_true] at h1;exact absurd h1 (by decide)
  |false=>simpa using e
 have hm:=sumG_mod h2
 obtain⟨r0,r1,r2,r3,r4,r5,r6,r7,r8,r9⟩:=content_range h2
 have hm':b.getD 10 0=_:=hs.trans hm
 have r10:0≤b.getD 10 0∧b.getD 10 0<65537:=by rw[hm'];omega
 clear hs hm hm'
 exact all64_cons (by unfold i64B;omega) (all64_cons (by unfold i64B;omega) (all64_cons (by unfold i64B;omega) (all64_cons (by unfold i64B;omega) (all64_cons (by unfold i64B;omega) (all64_cons (by unfold i64B;omega) (all64_cons (by unfold i64B;omega) (all64_cons (by unfold i64B;omega) (all64_cons (by unfold i64B;omega) (all64_cons (by unfold i64B;omega) (all64_cons (by unfold i64B;omega) all64_nil))))))))))
theorem good_str{b:List Int}(h11:b.length=11)(hg:goodX b=true):(fmbG b).length≤1000000∧pbE (fmbG b)=0∧pbV (fmbG b) 0=b.getD 0 0∧pbV (fmbG b) 1=b.getD 1 0∧pbV (fmbG b) 2=b.getD 2 0∧pbV (fmbG b) 3=b.getD 3 0∧pbV (fmbG b) 4=b.getD 4 0∧pbV (fmbG b) 5=b.getD 5 0∧pbV (fmbG b) 6=b.getD 6 0∧pbV (fmbG b) 7=b.getD 7 0∧pbV (fmbG b) 8=b.getD 8 0∧pbV (fmbG b) 9=b.getD 9 0∧pbV (fmbG b) 10=b.getD 10 0:=by
 have h1:=(good_facts h11 hg).1
 have h:=par_blk h1
 have hl:=fmb_len (good_all64 h11 hg)
 rw[eta11 h11] at h hl
 exact⟨hl,h⟩
theorem strs_at{l:List (List Int)}{i:Nat}(h:i<l.length):(((strsG l).getD i []).getD 0 (D.int 0)).toStr=fmbG (l.getD i []):=by
 have e:(strsG l).getD i []=[.str (fmbG (l.getD i []))]:=by unfold strsG;simp[List.getD,List.getElem?_eq_getElem h]
 rw[e];rfl
end Go.Ev
namespace Go.Ev
open Go Go.Proofs
set_option maxRecDepth 20000
theorem bdB_ok{l:List (List Int)}{n i lost:Int}{S:List (List D)}{D:List (List Int)}{KL KR KX:Prop}{KK:List (List Int)→List Int→Prop}(hT:okTm l n)(h0:0≤i)(hS:S=strsG l)(hD:D.length=l.length)(hX:¬i<n→KX)(hL:i<n→bitB lost i=true→KL)
  (hK: ∀b,i<n→bitB lost i=false→l.drop i.toNat=b::l.drop (i.toNat+1)→KK (D.set i.toNat (samX b)) b):bdB l n i lost S D KL KR KX KK:=by
 obtain⟨hn,h1,h12,h11,hg⟩:=hT
 by_cases hlt:i<n
 ·obtain⟨b,hb11,hd,hb,hm⟩:=row11 (n:=i.toNat) (show i.toNat<l.length by omega) h11
  have hgb:=List.all_eq_true.1 hg b hm
  obtain⟨s0,s1,q0,q1,q2,q3,q4,q5,q6,q7,q8,q9,q10⟩:=good_str hb11 hgb
  have hsl:S.length=l.length:=by rw[hS];exact List.length_map _
  show bif decide (i<n) then _ else _
  rw[decide_eq_true hlt,decide_eq_false (show¬i<0 by omega),Bool.not_false,cond_true,cond_true]
  cases hbt:bitB lost i with
  |true=>exact hL hlt hbt
  |false=>
   have k:=hK b hlt hbt hd
   rw[cond_false,hS,strs_at (show i.toNat<l.length by omega),hb,show(strsG l).length=l.length from List.length_map _,q0,q1,q2,q3,q4,q5,q6,q7,q8,q9,q10,s1,decide_eq_true h0,decide_eq_true (show i<(l.length:Int) by omega),decide_eq_true (show i.toNat<l.length by omega),decide_eq_true (show 0<1 by decide),decide_eq_true (show 10<11 by decide),hD,decide_eq_true (show i<(l.length:Int) by omega),decide_eq_true (show i.toNat<l.length by omega),eta11 hb11]
   simp only[beq_self_eq_true,bne_self_eq_false,Bool.and_self,Bool.not_true,cond_false,cond_true]
   exact And.intro s0 k
 ·show bif decide (i<n) then _ else _
  rw[decide_eq_false hlt]
  exact hX hlt
theorem bdC_ok{j cnt par:Int}{KL KN KX:Prop}(h0:0≤j)(hX:¬j<cnt→KX)(hL:j<cnt→bitB par j=true→KL)(hN:j<cnt→bitB par j=false→KN):bdC j cnt par KL KN KX:=by
 unfold bdC
 by_cases hj:j<cnt
 ·rw[decide_eq_true hj,decide_eq_false (show¬j<0 by omega),Bool.not_false,cond_true,cond_true]
  cases hb:bitB par j with
  |true=>exact hL hj hb
  |false=>exact hN hj hb
 ·rw[decide_eq_false hj]
  exact hX hj
theorem bdD_ok{h c:Int}{L:List Int}{T:List (List Int)}{KN KX:Prop}{KM:Int→Prop}(h0:0≤h)(h2:L.length≤12)(h3: ∀y ∈ L,0≤y∧y≤12)(h5:0≤c)(h6:c≤65535)(h7:1≤T.length)(h8:T.length≤12)(hX:¬h<(L.length:Int)→KX)
  (hN:h<(L.length:Int)→betw c T (L.getD h.toNat 0)=false→KN) (hM:h<(L.length:Int)→betw c T (L.getD h.toNat 0)=true→KM (c+L.getD h.toNat 0)):bdD h c L T KN KX KM:=by
 by_cases hj:h<(L.length:Int)
 ·have hy:=h3 _ (show L.getD h.toNat 0 ∈ L by rw[getD_of_lt (show h.toNat<L.length by omega)];exact List.getElem_mem _)
  have w2:IntKind.i64.wrap (c+L.getD (h.toNat+0) 0)=c+L.getD h.toNat 0:=wrap_id (by rw[Nat.add_zero];omega) (by rw[Nat.add_zero];omega)
  have w3:IntKind.i64.wrap ((T.length:Int)-1)=(T.length:Int)-1:=wrap_id (by omega) (by omega)
  have e3:((T.length:Int)-1).toNat=T.length-1:=by omega
  have hN':=hN hj
  have hM':=hM hj
  have hbt:betw c T (L.getD h.toNat 0)=(decide (c+L.getD h.toNat 0>(T.getD 0 []).getD 0 0)&&decide (c+L.getD h.toNat 0<(T.getD (T.length-1) []).getD 0 0)):=by
   unfold betw;rw[decide_eq_true (show(T.length:Int)>0 by omega),Bool.true_and]
  rw[hbt] at hN' hM'
  unfold bdD
  rw[w2,w3]
  simp only[]
  rw[e3,decide_eq_true hj,decide_eq_true h0,decide_eq_true (show h.toNat+0<L.length by omega),decide_eq_true (show(T.length:Int)>0 by omega),decide_eq_true (show(0:Int)≤0 by decide),decide_eq_true (show 0<11 by decide),decide_eq_true (show 0<T.length by omega),decide_eq_true (show 0≤(T.length:Int)-1 by omega),decide_eq_true (show(T.length:Int)-1<(T.length:Int) by omega),decide_eq_true (show T.length-1<T.length by omega)]
  simp only[Bool.and_self,cond_true]
  cases b1:decide (c+L.getD h.toNat 0>(T.getD 0 []).getD 0 0) with
  |false=>exact hN' (by rw[b1];rfl)
  |true=>
   rw[cond_true]
   cases b2:decide (c+L.getD h.toNat 0<(T.getD (T.length-1) []).getD 0 0) with
   |false=>exact hN' (by rw[b1,b2];rfl)
   |true=>exact hM' (by rw[b1,b2];rfl)
 ·unfold bdD
  rw[decide_eq_false hj]
  exact hX hj
theorem bdA_ok{l:List (List Int)}{n i:Int}{S:List (List D)}{X:List (List Int)}{ap:Bool}{KR KX:Prop}{KN:List (List D)→List (List Int)→Prop}(hT:okTm l n)(h0:0≤i)(hS:S.length≤1000)(hX1:X.length≤1000)(hX:¬i<n→KX)
  (hK: ∀b,i<n→l.drop i.toNat=b::l.drop (i.toNat+1)→KN (S++[[.str (fmbG b)]]) (X++[samX b])):bdA l n i S X ap KR KX KN:=by
 obtain⟨hn,h1,h12,h11,hg⟩:=hT
 by_cases hlt:i<n
 ·obtain⟨b,hb11,hd,hb,hm⟩:=row11 (n:=i.toNat) (show i.toNat<l.length by omega) h11
  have hgb:=List.all_eq_true.1 hg b hm
  obtain⟨g1,g2,g3⟩:=good_facts hb11 hgb
  have g4:=good_all64 hb11 hgb
  have hpb:=pack_bounds g3 rfl
  have hpu:=pack_unpack g3 rfl
  have k:=hK b hlt hd
  have g5:blockE (b.getD 0 0) (b.getD 1 0) [b.getD 2 0,b.getD 3 0,b.getD 4 0,b.getD 5 0,b.getD 6 0,b.getD 7 0,b.getD 8 0,b.getD 9 0] (b.getD 10 0)=0:=g1
  have e1:=eta11 hb11
  rw[e1] at g4
  have r1:(!ap||decide ((S++[[D.str (fmbG b)]]).length*16≤140737488355328∧(S++[[D.str (fmbG b)]]).length≤140737488355328))=true:=by
   rw[decide_eq_true (by rw[List.length_append];simp only[List.length_cons,List.length_nil];omega),Bool.or_true]
  have r2:(!ap||decide ((X++[[b.getD 2 0,b.getD 3 0,b.getD 4 0,b.getD 5 0,b.getD 6 0,b.getD 7 0,b.getD 8 0,b.getD 9 0]]).length*64≤140737488355328∧(X++[[b.getD 2 0,b.getD 3 0,b.getD 4 0,b.getD 5 0,b.getD 6 0,b.getD 7 0,b.getD 8 0,b.getD 9 0]]).length≤140737488355328))=true:=by
   rw[decide_eq_true (by rw[List.length_append];simp only[List.length_cons,List.length_nil];omega),Bool.or_true]
  unfold bdA
  simp only[hb,e1,decide_eq_true hlt,decide_eq_true h0,decide_eq_true (show i<(l.length:Int) by omega),decide_eq_true (show i.toNat<l.length by omega),decide_eq_true (show 9<11 by decide),decide_eq_true (show 10<11 by decide),Bool.and_self,cond_true,g5,bne_self_eq_false,cond_false,r1,r2]
  intro cc B hc hB
  have hc2:cc=true:=hc.trans g3
  subst hc2
  have hB2:B=packG (samX b):=hB
  rw[cond_true,hB2]
  refine⟨by omega,by omega,fun e ys he hy=> ?_⟩
  rw[hpu.1] at he
  rw[hpu.2.1] at hy
  subst he hy
  simp only[samX,List.getD_cons_zero,List.getD_cons_succ,beq_self_eq_true,Bool.and_self,Bool.not_true,cond_false,cond_true]
  exact⟨g4,k⟩
 ·unfold bdA
  rw[decide_eq_false hlt]
  exact hX hlt
end Go.Ev
namespace Go.Ev
open Go Go.Proofs
attribute [local irreducible] evFn evBody evRound
set_option maxRecDepth 20000
theorem lokmen_0:LoopOK EmenF0 (lb Tryz.f5 0) [3,5,6,7,8] [2,6,7] tmA:=by
 refine loopOK (.cons oktaw (.cons ok36 (.cons ok25 (.cons ok35 (.cons okboD (.cons ok28V (.cons ok47V (.cons ok21 (.cons okfmb (.cons ok41 (.cons okparD (.cons okpab (.cons okcpb (.cons okmisD (.cons ok30 (.cons okcgr (.cons okrdD .nil))))))))))))))))) (noInner (by kernel_rfl)) (fun vs σ=>match vs,σ with
  |[.one (.data (.mat .i64 11 _)),.one (.int .i64 n),.one .nil,.one .nil,.one (.int .i64 i)],[]=>(n-i).toNat
  |[.one (.data (.mat .i64 11 _)),.one (.int .i64 n),.one (.own 0 1),.one (.own 1 8),.one (.int .i64 i)],[.row 9 (.recs [.str] _),.row 22 (.mat .i64 8 _)]=>(n-i).toNat
  |_,_=>0) fun vs σ k h=> ?_
 unfold tmA at h
 split at h
 rotate_right
 ·exact h.elim
 ·rename_i l n i
  obtain⟨⟨hT,hi⟩,hk⟩:=h
  obtain⟨hn,h1,h12,_⟩:=id hT
  have i0:i=0:=by omega
  subst i0
  rw[exmenl0a]
  refine bdA_ok hT (by decide) (by decide) (by decide) (fun h=>absurd h (by omega)) fun b hlt hd=> ?_
  rw[show((0:Int)).toNat=0 from rfl,List.drop_zero] at hd
  have e1:strsG l=[[.str (fmbG b)]]++strsG (l.drop 1):=by rw[hd];rfl
  have e2:l.map samX=[samX b]++(l.drop 1).map samX:=by rw[hd];rfl
  rw[e1,e2] at hk
  rw[show IntKind.i64.wrap ((0:Int)+1)=1 by decide]
  exact⟨⟨⟨hT,by decide,by omega,rfl,rfl⟩,hk⟩,by show(n-1).toNat<(n-0).toNat;omega⟩
 ·rename_i l n i S X
  obtain⟨⟨hT,h0,hle,hS,hX⟩,hk⟩:=h
  obtain⟨hn,h1,h12,_⟩:=id hT
  rw[exmenl0b]
  refine bdA_ok hT h0 (by omega) (by omega) (fun hlt=> ?_) fun b hlt hd=> ?_
  ·rw[List.drop_eq_nil_of_le (by omega)] at hk
   rw[show strsG []=[] from rfl,List.map_nil,List.append_nil,List.append_nil] at hk
   exact hk
  ·rw[hd,show strsG (b::l.drop (i.toNat+1))=[[.str (fmbG b)]]++strsG (l.drop (i.toNat+1)) from rfl,List.map_cons,← List.append_assoc,show samX b::(l.drop (i.toNat+1)).map samX=[samX b]++(l.drop (i.toNat+1)).map samX from rfl,← List.append_assoc,show i.toNat+1=(i+1).toNat by omega] at hk
   rw[show IntKind.i64.wrap (i+1)=i+1 from wrap_id (by omega) (by omega)]
   exact⟨⟨⟨hT,by omega,by omega,by rw[List.length_append];simp only[List.length_cons,List.length_nil];omega,by rw[List.length_append];simp only[List.length_cons,List.length_nil];omega⟩,hk⟩,by show(n-(i+1)).toNat<(n-i).toNat;omega⟩
theorem lokmen_4:LoopOK EmenF1 (lb Tryz.f5 4) [1,26,28] [2] tmE:=by
 refine loopOK (.cons oktaw (.cons ok36 (.cons ok25 (.cons ok35 (.cons okboD (.cons ok28V (.cons ok47V (.cons ok21 (.cons okfmb (.cons ok41 (.cons okparD (.cons okpab (.cons okcpb (.cons okmisD (.cons ok30 (.cons okcgr (.cons okrdD .nil))))))))))))))))) (noInner (by kernel_rfl)) (fun vs σ=>match vs,σ with
  |[.one (.ptr 0 1 0 0),.one (.data (.mat .i64 8 _)),.one (.int .i64 i)],[.cells [.data (.ints .i64 x),.int .i64 _,.int .i64 _,.int .i64 _,.int .i64 _,.int .i64 _]]=>(x.length-i).toNat
  |_,_=>0) fun vs σ k h=> ?_
 unfold tmE at h
 split at h
 rotate_right
 ·exact h.elim
 rename_i X i x ch c cnt lost par
 rw[exmenl4a X i x ch c cnt lost par _]
 obtain⟨⟨h1,h2,h3,h4,h5,h6⟩,hk⟩:=h
 by_cases hi:i<(x.length:Int)
 ·have w1:IntKind.i64.wrap (i+1)=i+1:=wrap_id (by omega) (by omega)
  have e1:i.tdiv 8=i/8:=Int.tdiv_eq_ediv_of_nonneg h4
  have e2:i.tmod 8=i%8:=Int.tmod_eq_emod_of_nonneg h4
  have w2:IntKind.i64.wrap (i/8)=i/8:=wrap_id (by omega) (by omega)
  have e3:(i/8).toNat=i.toNat/8:=by omega
  have e4:(i%8).toNat=i.toNat%8:=by omega
  rw[e1,e2,w1,w2,e3,e4,decide_eq_true hi,decide_eq_true (show 0≤i/8 by omega),decide_eq_true (show i/8<(X.length:Int) by omega),decide_eq_true (show 0≤i%8 by omega),decide_eq_true (show i%8<8 by omega),decide_eq_true (show 0+i.toNat%8+0<8 by omega),decide_eq_true (show i.toNat/8<X.length by omega),decide_eq_true h4,decide_eq_true (show i.toNat+0<x.length by omega)]
  simp only[Bool.and_self,cond_true]
  rw[show 0+i.toNat%8+0=i.toNat%8 by omega,h6 i.toNat (by omega),Nat.add_zero,bne_self_eq_false,cond_false]
  exact⟨⟨⟨h1,h2,h3,by omega,by omega,h6⟩,hk⟩,by show((x.length:Int)-(i+1)).toNat<((x.length:Int)-i).toNat;omega⟩
 ·rw[decide_eq_false hi]
  exact hk
end Go.Ev
namespace Go.Ev
open Go Go.Proofs
attribute [local irreducible] evFn evBody evRound
set_option maxRecDepth 20000
theorem room8{L:List Int}{v:Int}(h:L.length≤1000):decide ((L++[v]).length*8≤140737488355328∧(L++[v]).length≤140737488355328)=true:=decide_eq_true (by rw[List.length_append];simp only[List.length_cons,List.length_nil];omega)
theorem room88{T:List (List Int)}{v:List Int}(h:T.length≤1000):decide ((T++[v]).length*88≤140737488355328∧(T++[v]).length≤140737488355328)=true:=decide_eq_true (by rw[List.length_append];simp only[List.length_cons,List.length_nil];omega)
theorem lo_st{x j c:Int}(h:j<c):lostJ x j (c-j).toNat=bif bitB x j then j::lostJ x (j+1) (c-(j+1)).toNat else lostJ x (j+1) (c-(j+1)).toNat:=by
 rw[show(c-j).toNat=(c-(j+1)).toNat+1 by omega];rfl
theorem lo_end{x j c:Int}(h:¬j<c):lostJ x j (c-j).toNat=[]:=by
 rw[show(c-j).toNat=0 by omega];rfl
theorem len_snoc{α:Type}(l:List α)(a:α):(l++[a]).length=l.length+1:=by simp
theorem noE{α:Type}{l:List α}(h:1≤l.length):l.isEmpty=false:=by cases l with|nil=>simp at h|cons a b=>rfl
theorem ms_st{c g:Int}{T:List (List Int)}{L:List Int}(h:g<(L.length:Int))(h0:0≤g):msJ c T (L.drop g.toNat)=bif betw c T (L.getD g.toNat 0) then(c+L.getD g.toNat 0)::msJ c T (L.drop (g+1).toNat) else msJ c T (L.drop (g+1).toNat):=by
 rw[drop_step 0 (show g.toNat<L.length by omega),show g.toNat+1=(g+1).toNat by omega];rfl
theorem st_lost{x n i:Int}{l D:List (List Int)}(hn:(l.length:Int)=n)(h:i<n)(h0:0≤i)(hb:bitB x i=true):kpJ x i (l.drop i.toNat)=kpJ x (i+1) (l.drop (i+1).toNat)∧lsJ x i (l.drop i.toNat)=i::lsJ x (i+1) (l.drop (i+1).toNat)∧dtJ x i (l.drop i.toNat) D=dtJ x (i+1) (l.drop (i+1).toNat) D:=by
 rw[drop_step [] (show i.toNat<l.length by omega),show i.toNat+1=(i+1).toNat by omega]
 simp only[kpJ,lsJ,dtJ]
 rw[hb];exact⟨rfl,rfl,rfl⟩
theorem st_kept{x i:Int}{l D:List (List Int)}{b:List Int}(hb:bitB x i=false)(hd:l.drop i.toNat=b::l.drop (i.toNat+1))(h0:0≤i):kpJ x i (l.drop i.toNat)=b::kpJ x (i+1) (l.drop (i+1).toNat)∧lsJ x i (l.drop i.toNat)=lsJ x (i+1) (l.drop (i+1).toNat)∧dtJ x i (l.drop i.toNat) D=dtJ x (i+1) (l.drop (i+1).toNat) (D.set i.toNat (samX b)):=by
 rw[hd,show i.toNat+1=(i+1).toNat by omega]
 simp only[kpJ,lsJ,dtJ]
 rw[hb];exact⟨rfl,rfl,rfl⟩
theorem snoc_app{α:Type}(l m:List α)(a:α):l++a::m=(l++[a])++m:=by simp
theorem lokmen_2:LoopOK Emen (lb Tryz.f5 2) [1,5,15,16,17,21] [1,5,15,16,17] tmC:=by
 refine loopOK (.cons oktaw (.cons ok36 (.cons ok25 (.cons ok35 (.cons okboD (.cons ok28V (.cons ok47V (.cons ok21 (.cons okfmb (.cons ok41 (.cons okparD (.cons okpab (.cons okcpb (.cons okmisD (.cons ok30 (.cons okcgr (.cons okrdD .nil))))))))))))))))) (noInner (by kernel_rfl)) (fun vs _=>match vs with
  |[_,_,_,_,_,.one (.int .i64 j)]=>(5-j).toNat
  |_=>0) fun vs σ k h=> ?_
 unfold tmC at h
 split at h
 rotate_right
 ·exact h.elim
 ·split at h
  rotate_right
  ·exact h.elim
  ·rename_i n j sg x ch c cnt lost par D P T
   rw[exmenl2a]
   obtain⟨⟨h0,h1,h4⟩,hk⟩:=h
   have w1:j<cnt→IntKind.i64.wrap (j+1)=j+1:=fun _=>wrap_id (by omega) (by omega)
   refine bdC_ok h0 (fun hj=> ?_) (fun hj hb=> ?_) fun hj hb=> ?_
   ·rw[lo_end hj] at hk
    exact hk
   ·rw[lo_st hj,hb,cond_true] at hk
    rw[w1 hj]
    exact⟨⟨⟨by omega,by omega,h4,by simp only[List.length_cons,List.length_nil];omega⟩,hk⟩,by show(5-(j+1)).toNat<(5-j).toNat;omega⟩
   ·rw[lo_st hj,hb,cond_false] at hk
    rw[w1 hj]
    exact⟨⟨⟨by omega,by omega,h4⟩,hk⟩,by show(5-(j+1)).toNat<(5-j).toNat;omega⟩
 ·split at h
  rotate_right
  ·exact h.elim
  ·rename_i n j sg x ch c cnt lost par D P Q T
   rw[exmenl2b]
   obtain⟨⟨h0,h1,h4,hQ⟩,hk⟩:=h
   have w1:j<cnt→IntKind.i64.wrap (j+1)=j+1:=fun _=>wrap_id (by omega) (by omega)
   refine bdC_ok h0 (fun hj=> ?_) (fun hj hb=> ?_) fun hj hb=> ?_
   ·rw[lo_end hj,List.append_nil] at hk
    exact hk
   ·rw[lo_st hj,hb,cond_true,snoc_app] at hk
    rw[room8 (by omega),cond_true,w1 hj]
    exact⟨⟨⟨by omega,by omega,h4,by rw[len_snoc];omega⟩,hk⟩,by show(5-(j+1)).toNat<(5-j).toNat;omega⟩
   ·rw[lo_st hj,hb,cond_false] at hk
    rw[w1 hj]
    exact⟨⟨⟨by omega,by omega,h4,by omega⟩,hk⟩,by show(5-(j+1)).toNat<(5-j).toNat;omega⟩
  ·rename_i n j sg x ch c cnt lost par D P L T
   rw[exmenl2e]
   obtain⟨⟨h0,h1,h4⟩,hk⟩:=h
   have w1:j<cnt→IntKind.i64.wrap (j+1)=j+1:=fun _=>wrap_id (by omega) (by omega)
   refine bdC_ok h0 (fun hj=> ?_) (fun hj hb=> ?_) fun hj hb=> ?_
   ·rw[lo_end hj] at hk
    exact hk
   ·rw[lo_st hj,hb,cond_true] at hk
    rw[w1 hj]
    exact⟨⟨⟨by omega,by omega,h4,by simp only[List.length_cons,List.length_nil];omega⟩,hk⟩,by show(5-(j+1)).toNat<(5-j).toNat;omega⟩
   ·rw[lo_st hj,hb,cond_false] at hk
    rw[w1 hj]
    exact⟨⟨⟨by omega,by omega,h4⟩,hk⟩,by show(5-(j+1)).toNat<(5-j).toNat;omega⟩
 ·split at h
  rotate_right
  ·exact h.elim
  ·rename_i n j sg x ch c cnt lost par D P L
   rw[exmenl2c]
   obtain⟨⟨h0,h1,h4⟩,hk⟩:=h
   have w1:j<cnt→IntKind.i64.wrap (j+1)=j+1:=fun _=>wrap_id (by omega) (by omega)
   refine bdC_ok h0 (fun hj=> ?_) (fun hj hb=> ?_) fun hj hb=> ?_
   ·rw[lo_end hj] at hk
    exact hk
   ·rw[lo_st hj,hb,cond_true] at hk
    rw[w1 hj]
    exact⟨⟨⟨by omega,by omega,h4,by simp only[List.length_cons,List.length_nil];omega⟩,hk⟩,by show(5-(j+1)).toNat<(5-j).toNat;omega⟩
   ·rw[lo_st hj,hb,cond_false] at hk
    rw[w1 hj]
    exact⟨⟨⟨by omega,by omega,h4⟩,hk⟩,by show(5-(j+1)).toNat<(5-j).toNat;omega⟩
  ·rename_i n j sg x ch c cnt lost par D P L Q
   rw[exmenl2d]
   obtain⟨⟨h0,h1,h4,hQ⟩,hk⟩:=h
   have w1:j<cnt→IntKind.i64.wrap (j+1)=j+1:=fun _=>wrap_id (by omega) (by omega)
   refine bdC_ok h0 (fun hj=> ?_) (fun hj hb=> ?_) fun hj hb=> ?_
   ·rw[lo_end hj,List.append_nil] at hk
    exact hk
   ·rw[lo_st hj,hb,cond_true,snoc_app] at hk
    rw[room8 (by omega),cond_true,w1 hj]
    exact⟨⟨⟨by omega,by omega,h4,by rw[len_snoc];omega⟩,hk⟩,by show(5-(j+1)).toNat<(5-j).toNat;omega⟩
   ·rw[lo_st hj,hb,cond_false] at hk
    rw[w1 hj]
    exact⟨⟨⟨by omega,by omega,h4,by omega⟩,hk⟩,by show(5-(j+1)).toNat<(5-j).toNat;omega⟩
 ·split at h
  rotate_right
  ·exact h.elim
  ·rename_i n j sg x ch c cnt lost par D P L Q T
   rw[exmenl2f]
   obtain⟨⟨h0,h1,h4,hQ⟩,hk⟩:=h
   have w1:j<cnt→IntKind.i64.wrap (j+1)=j+1:=fun _=>wrap_id (by omega) (by omega)
   refine bdC_ok h0 (fun hj=> ?_) (fun hj hb=> ?_) fun hj hb=> ?_
   ·rw[lo_end hj,List.append_nil] at hk
    exact hk
   ·rw[lo_st hj,hb,cond_true,snoc_app] at hk
    rw[room8 (by omega),cond_true,w1 hj]
    exact⟨⟨⟨by omega,by omega,h4,by rw[len_snoc];omega⟩,hk⟩,by show(5-(j+1)).toNat<(5-j).toNat;omega⟩
   ·rw[lo_st hj,hb,cond_false] at hk
    rw[w1 hj]
    exact⟨⟨⟨by omega,by omega,h4,by omega⟩,hk⟩,by show(5-(j+1)).toNat<(5-j).toNat;omega⟩
theorem lokmen_3:LoopOK Emen (lb Tryz.f5 3) [1,5,15,16,17,22] [1,5,15,16,17] tmD:=by
 refine loopOK (.cons oktaw (.cons ok36 (.cons ok25 (.cons ok35 (.cons okboD (.cons ok28V (.cons ok47V (.cons ok21 (.cons okfmb (.cons ok41 (.cons okparD (.cons okpab (.cons okcpb (.cons okmisD (.cons ok30 (.cons okcgr (.cons okrdD .nil))))))))))))))))) (noInner (by kernel_rfl)) (fun vs _=>match vs with
  |[_,_,_,_,_,.one (.int .i64 h)]=>(12-h).toNat
  |_=>0) fun vs σ k h=> ?_
 unfold tmD at h
 split at h
 rotate_right
 ·exact h.elim
 ·split at h
  rotate_right
  ·exact h.elim
  ·rename_i n g sg x ch c cnt lost par D P T
   rw[exmenl3a]
   obtain⟨⟨h0,_⟩,hk⟩:=h
   rw[decide_eq_false (show¬g<0 by omega)]
   exact hk
 ·split at h
  rotate_right
  ·exact h.elim
  ·rename_i n g sg x ch c cnt lost par D P Q T
   rw[exmenl3b]
   obtain⟨⟨h0,_⟩,hk⟩:=h
   rw[decide_eq_false (show¬g<0 by omega)]
   exact hk
  ·rename_i n g sg x ch c cnt lost par D P L T
   rw[exmenl3e]
   obtain⟨⟨h0,h1,h2,h3,h5,h6,h7,h8⟩,hk⟩:=h
   have w1:g<(L.length:Int)→IntKind.i64.wrap (g+1)=g+1:=fun _=>wrap_id (by omega) (by omega)
   refine bdD_ok h0 h2 h3 h5 h6 h7 h8 (fun hj=> ?_) (fun hj hb=> ?_) fun hj hb=> ?_
   ·rw[List.drop_eq_nil_of_le (by omega)] at hk
    exact hk
   ·rw[ms_st hj h0,hb,cond_false] at hk
    rw[w1 hj]
    exact⟨⟨⟨by omega,by omega,h2,h3,h5,h6,h7,h8⟩,hk⟩,by show(12-(g+1)).toNat<(12-g).toNat;omega⟩
   ·rw[ms_st hj h0,hb,cond_true] at hk
    rw[w1 hj]
    exact⟨⟨⟨by omega,by omega,h2,h3,h5,h6,h7,h8,by simp only[List.length_cons,List.length_nil];omega⟩,hk⟩,by show(12-(g+1)).toNat<(12-g).toNat;omega⟩
 ·split at h
  rotate_right
  ·exact h.elim
  ·rename_i n g sg x ch c cnt lost par D P L
   rw[exmenl3c]
   obtain⟨⟨h0,h1,h2,h3,h5,h6⟩,hk⟩:=h
   by_cases hj:g<(L.length:Int)
   ·rw[decide_eq_true hj,decide_eq_true h0,decide_eq_true (show g.toNat+0<L.length by omega),show IntKind.i64.wrap (g+1)=g+1 from wrap_id (by omega) (by omega)]
    exact⟨⟨⟨by omega,by omega,h2,h3,h5,h6⟩,hk⟩,by show(12-(g+1)).toNat<(12-g).toNat;omega⟩
   ·rw[decide_eq_false hj]
    exact hk
  ·rename_i n g sg x ch c cnt lost par D P L Q
   rw[exmenl3d]
   obtain⟨⟨h0,h1,h2,h3,h5,h6⟩,hk⟩:=h
   by_cases hj:g<(L.length:Int)
   ·rw[decide_eq_true hj,decide_eq_true h0,decide_eq_true (show g.toNat+0<L.length by omega),show IntKind.i64.wrap (g+1)=g+1 from wrap_id (by omega) (by omega)]
    exact⟨⟨⟨by omega,by omega,h2,h3,h5,h6⟩,hk⟩,by show(12-(g+1)).toNat<(12-g).toNat;omega⟩
   ·rw[decide_eq_false hj]
    exact hk
 ·split at h
  rotate_right
  ·exact h.elim
  ·rename_i n g sg x ch c cnt lost par D P L T M
   rw[exmenl3f]
   obtain⟨⟨h0,h1,h2,h3,h5,h6,h7,h8,hM⟩,hk⟩:=h
   have w1:g<(L.length:Int)→IntKind.i64.wrap (g+1)=g+1:=fun _=>wrap_id (by omega) (by omega)
   refine bdD_ok h0 h2 h3 h5 h6 h7 h8 (fun hj=> ?_) (fun hj hb=> ?_) fun hj hb=> ?_
   ·rw[List.drop_eq_nil_of_le (by omega),show msJ c T []=[] from rfl,List.append_nil] at hk
    exact hk
   ·rw[ms_st hj h0,hb,cond_false] at hk
    rw[w1 hj]
    exact⟨⟨⟨by omega,by omega,h2,h3,h5,h6,h7,h8,by omega⟩,hk⟩,by show(12-(g+1)).toNat<(12-g).toNat;omega⟩
   ·rw[ms_st hj h0,hb,cond_true,snoc_app] at hk
    rw[w1 hj,room8 (by omega)]
    exact⟨⟨⟨by omega,by omega,h2,h3,h5,h6,h7,h8,by rw[len_snoc];omega⟩,hk⟩,by show(12-(g+1)).toNat<(12-g).toNat;omega⟩
 ·split at h
  rotate_right
  ·exact h.elim
  ·rename_i n g sg x ch c cnt lost par D P L Q T
   rw[exmenl3g]
   obtain⟨⟨h0,h1,h2,h3,h5,h6,h7,h8⟩,hk⟩:=h
   have w1:g<(L.length:Int)→IntKind.i64.wrap (g+1)=g+1:=fun _=>wrap_id (by omega) (by omega)
   refine bdD_ok h0 h2 h3 h5 h6 h7 h8 (fun hj=> ?_) (fun hj hb=> ?_) fun hj hb=> ?_
   ·rw[List.drop_eq_nil_of_le (by omega)] at hk
    exact hk
   ·rw[ms_st hj h0,hb,cond_false] at hk
    rw[w1 hj]
    exact⟨⟨⟨by omega,by omega,h2,h3,h5,h6,h7,h8⟩,hk⟩,by show(12-(g+1)).toNat<(12-g).toNat;omega⟩
   ·rw[ms_st hj h0,hb,cond_true] at hk
    rw[w1 hj]
    exact⟨⟨⟨by omega,by omega,h2,h3,h5,h6,h7,h8,by simp only[List.length_cons,List.length_nil];omega⟩,hk⟩,by show(12-(g+1)).toNat<(12-g).toNat;omega⟩
 ·split at h
  rotate_right
  ·exact h.elim
  ·rename_i n g sg x ch c cnt lost par D P L Q T M
   rw[exmenl3h]
   obtain⟨⟨h0,h1,h2,h3,h5,h6,h7,h8,hM⟩,hk⟩:=h
   have w1:g<(L.length:Int)→IntKind.i64.wrap (g+1)=g+1:=fun _=>wrap_id (by omega) (by omega)
   refine bdD_ok h0 h2 h3 h5 h6 h7 h8 (fun hj=> ?_) (fun hj hb=> ?_) fun hj hb=> ?_
   ·rw[List.drop_eq_nil_of_le (by omega),show msJ c T []=[] from rfl,List.append_nil] at hk
    exact hk
   ·rw[ms_st hj h0,hb,cond_false] at hk
    rw[w1 hj]
    exact⟨⟨⟨by omega,by omega,h2,h3,h5,h6,h7,h8,by omega⟩,hk⟩,by show(12-(g+1)).toNat<(12-g).toNat;omega⟩
   ·rw[ms_st hj h0,hb,cond_true,snoc_app] at hk
    rw[w1 hj,room8 (by omega)]
    exact⟨⟨⟨by omega,by omega,h2,h3,h5,h6,h7,h8,by rw[len_snoc];omega⟩,hk⟩,by show(12-(g+1)).toNat<(12-g).toNat;omega⟩
theorem lokmen_1:LoopOK Emen (lb Tryz.f5 1) [1,3,5,6,15,16,17,18] [1,2,5,15,16,17] tmB:=by
 refine loopOK (.cons oktaw (.cons ok36 (.cons ok25 (.cons ok35 (.cons okboD (.cons ok28V (.cons ok47V (.cons ok21 (.cons okfmb (.cons ok41 (.cons okparD (.cons okpab (.cons okcpb (.cons okmisD (.cons ok30 (.cons okcgr (.cons okrdD .nil))))))))))))))))) (noInner (by kernel_rfl)) (fun vs _=>match vs with
  |[_,_,.one (.int .i64 n),_,_,_,_,.one (.int .i64 i)]=>(n-i).toNat
  |_=>0) fun vs σ k h=> ?_
 unfold tmB at h
 split at h
 rotate_right
 ·exact h.elim
 ·split at h
  rotate_right
  ·exact h.elim
  ·rename_i l n i sg x ch c cnt lost par S D P
   rw[exmenl1a]
   obtain⟨⟨hT,h0,hle,hS,hD,hl0,hl1,hi0⟩,hk⟩:=h
   obtain⟨hn,hn1,hn2,_⟩:=id hT
   have w1:IntKind.i64.wrap (i+1)=i+1:=wrap_id (by omega) (by omega)
   rw[w1]
   refine bdB_ok hT h0 hS hD (fun hj=> ?_) (fun hj hb=> ?_) fun b hj hb hd=> ?_
   ·exact absurd hi0 (by omega)
   ·obtain⟨e1,e2,e3⟩:=st_lost (D:=D) hn hj h0 hb
    rw[e1,e2,e3] at hk
    exact⟨⟨⟨hT,by omega,by omega,hS,hD,hl0,hl1,by simp only[List.length_cons,List.length_nil];omega,by simp⟩,hk⟩,by show(n-(i+1)).toNat<(n-i).toNat;omega⟩
   ·obtain⟨e1,e2,e3⟩:=st_kept (D:=D) hb hd h0
    rw[e1,e2,e3] at hk
    exact⟨⟨⟨hT,by omega,by omega,hS,by rw[List.length_set];exact hD,hl0,hl1,by simp only[List.length_cons,List.length_nil];omega,by simp⟩,hk⟩,by show(n-(i+1)).toNat<(n-i).toNat;omega⟩
  ·rename_i l n i sg x ch c cnt lost par S D P L
   rw[exmenl1c]
   obtain⟨⟨hT,h0,hle,hS,hD,hl0,hl1,hL1,hL2⟩,hk⟩:=h
   obtain⟨hn,hn1,hn2,_⟩:=id hT
   have w1:IntKind.i64.wrap (i+1)=i+1:=wrap_id (by omega) (by omega)
   rw[w1]
   refine bdB_ok hT h0 hS hD (fun hj=> ?_) (fun hj hb=> ?_) fun b hj hb hd=> ?_
   ·rw[List.drop_eq_nil_of_le (by omega),show kpJ lost i []=[] from rfl,show lsJ lost i []=[] from rfl,show dtJ lost i [] D=D from rfl,List.append_nil] at hk
    unfold tmBo at hk
    exact hk
   ·obtain⟨e1,e2,e3⟩:=st_lost (D:=D) hn hj h0 hb
    rw[e1,e2,e3,snoc_app] at hk
    rw[room8 (by omega)]
    exact⟨⟨⟨hT,by omega,by omega,hS,hD,hl0,hl1,by rw[len_snoc];omega,by rw[len_snoc];omega⟩,hk⟩,by show(n-(i+1)).toNat<(n-i).toNat;omega⟩
   ·obtain⟨e1,e2,e3⟩:=st_kept (D:=D) hb hd h0
    rw[e1,e2,e3] at hk
    exact⟨⟨⟨hT,by omega,by omega,hS,by rw[List.length_set];exact hD,hl0,hl1,by simp only[List.length_cons,List.length_nil];omega,by simp,by omega,hL2⟩,hk⟩,by show(n-(i+1)).toNat<(n-i).toNat;omega⟩
 ·split at h
  rotate_right
  ·exact h.elim
  ·rename_i l n i sg x ch c cnt lost par S D P T
   rw[exmenl1b]
   obtain⟨⟨hT,h0,hle,hS,hD,hl0,hl1,hT1,hT2⟩,hk⟩:=h
   obtain⟨hn,hn1,hn2,_⟩:=id hT
   have w1:IntKind.i64.wrap (i+1)=i+1:=wrap_id (by omega) (by omega)
   rw[w1]
   refine bdB_ok hT h0 hS hD (fun hj=> ?_) (fun hj hb=> ?_) fun b hj hb hd=> ?_
   ·rw[List.drop_eq_nil_of_le (by omega),show kpJ lost i []=[] from rfl,show lsJ lost i []=[] from rfl,show dtJ lost i [] D=D from rfl,List.append_nil] at hk
    unfold tmBo at hk
    rw[noE hT2,cond_false] at hk
    exact hk
   ·obtain⟨e1,e2,e3⟩:=st_lost (D:=D) hn hj h0 hb
    rw[e1,e2,e3] at hk
    exact⟨⟨⟨hT,by omega,by omega,hS,hD,hl0,hl1,by omega,hT2,by simp only[List.length_cons,List.length_nil];omega,by simp⟩,hk⟩,by show(n-(i+1)).toNat<(n-i).toNat;omega⟩
   ·obtain⟨e1,e2,e3⟩:=st_kept (D:=D) hb hd h0
    rw[e1,e2,e3,snoc_app] at hk
    rw[room88 (by omega)]
    exact⟨⟨⟨hT,by omega,by omega,hS,by rw[List.length_set];exact hD,hl0,hl1,by rw[len_snoc];omega,by rw[len_snoc];omega⟩,hk⟩,by show(n-(i+1)).toNat<(n-i).toNat;omega⟩
 ·split at h
  rotate_right
  ·exact h.elim
  ·rename_i l n i sg x ch c cnt lost par S D P L T
   rw[exmenl1d]
   obtain⟨⟨hT,h0,hle,hS,hD,hl0,hl1,hT1,hT2,hL1,hL2⟩,hk⟩:=h
   obtain⟨hn,hn1,hn2,_⟩:=id hT
   have w1:IntKind.i64.wrap (i+1)=i+1:=wrap_id (by omega) (by omega)
   rw[w1]
   refine bdB_ok hT h0 hS hD (fun hj=> ?_) (fun hj hb=> ?_) fun b hj hb hd=> ?_
   ·rw[List.drop_eq_nil_of_le (by omega),show kpJ lost i []=[] from rfl,show lsJ lost i []=[] from rfl,show dtJ lost i [] D=D from rfl,List.append_nil,List.append_nil] at hk
    unfold tmBo at hk
    rw[noE hT2,cond_false] at hk
    rw[noE hL2,cond_false] at hk
    exact hk
   ·obtain⟨e1,e2,e3⟩:=st_lost (D:=D) hn hj h0 hb
    rw[e1,e2,e3,snoc_app] at hk
    rw[room8 (by omega)]
    exact⟨⟨⟨hT,by omega,by omega,hS,hD,hl0,hl1,by omega,hT2,by rw[len_snoc];omega,by rw[len_snoc];omega⟩,hk⟩,by show(n-(i+1)).toNat<(n-i).toNat;omega⟩
   ·obtain⟨e1,e2,e3⟩:=st_kept (D:=D) hb hd h0
    rw[e1,e2,e3,snoc_app] at hk
    rw[room88 (by omega)]
    exact⟨⟨⟨hT,by omega,by omega,hS,by rw[List.length_set];exact hD,hl0,hl1,by rw[len_snoc];omega,by rw[len_snoc];omega,by omega,hL2⟩,hk⟩,by show(n-(i+1)).toNat<(n-i).toNat;omega⟩
end Go.Ev
namespace Go.Ev
open Go Go.Proofs
set_option maxRecDepth 100000
theorem exmenB(x:List Int)(l:List (List Int))(n ch c cnt lost par:Int)(a0 a4 a29 a30 a31 a32 a33 a34 a35 a36 a37 a38 a39 a40 a41 a42 a43 a44 a45 a46 a47 a48 a49 a50 a51 a52 a53 a54 a55 a56 a57 a58 a59 a60 a61 a62 a63 a64 a65 a66 a67 a68 a69 a70 a71 a72 a73 a74 a75 a76 a77 a78 a79 a80 a81 a82 a83 a84 a85 a86 a87 a88:AV)(K:AV→List Blk→Prop)(B:St→Prop):evStage Emen Tryz.f5 12 1 { t:=([a0,AV.one (SV.ptr 0 (1:Nat) (0:Nat) (0:Nat)),AV.one (SV.bool false),AV.one (SV.data (Row.mat IntKind.i64 (11:Nat) l)),a4,AV.one (SV.int IntKind.i64 n),AV.one SV.nil,AV.one SV.nil,AV.one (SV.int IntKind.i64 (0:Int)),AV.any,AV.any,AV.any,AV.any,AV.any,AV.any,AV.any,AV.any,AV.any,AV.any,AV.any,AV.any,AV.any,AV.any,AV.any,AV.any,AV.any,AV.any,AV.any,AV.any,a29,a30,a31,a32,a33,a34,a35,a36,a37,a38,a39,a40,a41,a42,a43,a44,a45,a46,a47,a48,a49,a50,a51,a52,a53,a54,a55,a56,a57,a58,a59,a60,a61,a62,a63,a64,a65,a66,a67,a68,a69,a70,a71,a72,a73,a74,a75,a76,a77,a78,a79,a80,a81,a82,a83,a84,a85,a86,a87,a88]++List.replicate 266 .any),σ:=[Blk.cells [SV.data (Row.ints IntKind.i64 x),SV.int IntKind.i64 ch,SV.int IntKind.i64 c,SV.int IntKind.i64 cnt,SV.int IntKind.i64 lost,SV.int IntKind.i64 par],Blk.dead] } K B=((okTm l n∧(0:Int)=(0:Int))∧B { t:=[a0,.one (.ptr 0 1 0 0),AV.any,.one (.data (Row.mat .i64 11 l)),a4,.one (.int .i64 n),.one (.own ([Blk.cells [SV.data (Row.ints .i64 x),SV.int .i64 ch,SV.int .i64 c,SV.int .i64 cnt,SV.int .i64 lost,SV.int .i64 par],Blk.dead].length+(0-([]:List Int).length)) 1),.one (.own ([Blk.cells [SV.data (Row.ints .i64 x),SV.int .i64 ch,SV.int .i64 c,SV.int .i64 cnt,SV.int .i64 lost,SV.int .i64 par],Blk.dead].length+(1-([]:List Int).length)) 8),AV.any,AV.any,AV.any,AV.any,AV.any,AV.any,AV.any,AV.any,AV.any,AV.any,AV.any,AV.any,AV.any,AV.any,AV.any,AV.any,AV.any,AV.any,AV.any,AV.any,AV.any,a29,a30,a31,a32,a33,a34,a35,a36,a37,a38,a39,a40,a41,a42,a43,a44,a45,a46,a47,a48,a49,a50,a51,a52,a53,a54,a55,a56,a57,a58,a59,a60,a61,a62,a63,a64,a65,a66,a67,a68,a69,a70,a71,a72,a73,a74,a75,a76,a77,a78,a79,a80,a81,a82,a83,a84,a85,a86,a87,a88,AV.any,AV.any,AV.any,AV.any,AV.any,AV.any,AV.any,AV.any,AV.any,AV.any,AV.any,AV.any,AV.any,AV.any,AV.any,AV.any,AV.any,AV.any,AV.any,AV.any,AV.any,AV.any,AV.any,AV.any,AV.any,AV.any,AV.any,AV.any,AV.any,AV.any,AV.any,AV.any,AV.any,AV.any,AV.any,AV.any,AV.any,AV.any,AV.any,AV.any,AV.any,AV.any,AV.any,AV.any,AV.any,AV.any,AV.any,AV.any,AV.any,AV.any,AV.any,AV.any,AV.any,AV.any,AV.any,AV.any,AV.any,AV.any,AV.any,AV.any,AV.any,AV.any,AV.any,AV.any,AV.any,AV.any,AV.any,AV.any,AV.any,AV.any,AV.any,AV.any,AV.any,AV.any,AV.any,AV.any,AV.any,AV.any,AV.any,AV.any,AV.any,AV.any,AV.any,AV.any,AV.any,AV.any,AV.any,AV.any,AV.any,AV.any,AV.any,AV.any,AV.any,AV.any,AV.any,AV.any,AV.any,AV.any,AV.any,AV.any,AV.any,AV.any,AV.any,AV.any,AV.any,AV.any,AV.any,AV.any,AV.any,AV.any,AV.any,AV.any,AV.any,AV.any,AV.any,AV.any,AV.any,AV.any,AV.any,AV.any,AV.any,AV.any,AV.any,AV.any,AV.any,AV.any,AV.any,AV.any,AV.any,AV.any,AV.any,AV.any,AV.any,AV.any,AV.any,AV.any,AV.any,AV.any,AV.any,AV.any,AV.any,AV.any,AV.any,AV.any,AV.any,AV.any,AV.any,AV.any,AV.any,AV.any,AV.any,AV.any,AV.any,AV.any,AV.any,AV.any,AV.any,AV.any,AV.any,AV.any,AV.any,AV.any,AV.any,AV.any,AV.any,AV.any,AV.any,AV.any,AV.any,AV.any,AV.any,AV.any,AV.any,AV.any,AV.any,AV.any,AV.any,AV.any,AV.any,AV.any,AV.any,AV.any,AV.any,AV.any,AV.any,AV.any,AV.any,AV.any,AV.any,AV.any,AV.any,AV.any,AV.any,AV.any,AV.any,AV.any,AV.any,AV.any,AV.any,AV.any,AV.any,AV.any,AV.any,AV.any,AV.any,AV.any,AV.any,AV.any,AV.any,AV.any,AV.any,AV.any,AV.any,AV.any,AV.any,AV.any,AV.any,AV.any,AV.any,AV.any,AV.any,AV.any,AV.any,AV.any,AV.any,AV.any,AV.any,AV.any,AV.any,AV.any,AV.any,AV.any,AV.any,AV.any,AV.any,AV.any,AV.any,AV.any,AV.any,AV.any,AV.any,AV.any,AV.any,AV.any,AV.any,AV.any,AV.any,AV.any,AV.any,AV.any,AV.any,AV.any,AV.any,AV.any,AV.any,AV.any,AV.any,AV.any,AV.any,AV.any,AV.any,AV.any,AV.any,AV.any,AV.any,AV.any],σ:=[Blk.cells [SV.data (Row.ints .i64 x),SV.int .i64 ch,SV.int .i64 c,SV.int .i64 cnt,SV.int .i64 lost,SV.int .i64 par],Blk.dead,Blk.row 9 (Row.recs [CK.str] (strsG l)),Blk.row 22 (Row.mat .i64 8 (List.map samX l))] }):=by kernel_rfl
end Go.Ev
