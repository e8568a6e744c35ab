/-
  Part of the proof that TopTransferMended holds.
-/
import Derived.Test.YtmailpnpjcpodaaGreatDoorT27
import Derived.Test.YtmailpnpjcpodaaGreatDoorT29
import Derived.Test.YtmailpnpjcpodaaGreatDoorT30
import Derived.Lib.ItoaNum
import Derived.Lib.Bytealg
set_option linter.unusedVariables false
set_option linter.unusedSimpArgs false
set_option linter.unusedSectionVars false
namespace Go.Ev
open Go Go.Proofs
attribute [local irreducible] evFn evBody evRound
attribute [local irreducible] evStage evRest
set_option maxRecDepth 20000
theorem first_cons{e:Int}{l:List Int}(h:firstE (e::l)=0):e=0∧firstE l=0:=by
 have h':(bif e==0 then firstE l else e)=0:=h
 cases hb:(e==0) with
 |true=>rw[hb] at h';exact⟨eq_of_beq hb,h'⟩
 |false=>rw[hb,cond_false] at h';subst h';cases hb
theorem bif0{b:Bool}{z:Int}(hz:z≠0)(h:(bif b then 0 else z)=0):b=true:=by
 cases b with
 |true=>rfl
 |false=>exact absurd h hz
structure Gro(D P:List (List Int))(L Q:List Int):Prop where
 d0:1≤D.length
 d1:D.length≤12
 p0:1≤P.length
 p1:P.length≤4
 lL:lostF D.length (-1) L=0
 lQ:lostF P.length (-1) Q=0
 kb:keptB L 0 D=true
 kr:keptR Q 0 P=true
theorem gro0{D P:List (List Int)}{L Q:List Int}(he:groE D P L Q=0):Gro D P L Q:=by
 unfold groE at he
 obtain⟨h1,he⟩:=first_cons he
 obtain⟨h2,he⟩:=first_cons he
 obtain⟨h3,he⟩:=first_cons he
 obtain⟨h4,he⟩:=first_cons he
 obtain⟨h5,he⟩:=first_cons he
 obtain⟨h6,he⟩:=first_cons he
 have h1:=bif0 (by decide) h1
 have h2:=bif0 (by decide) h2
 have h5:=bif0 (by decide) h5
 have h6:=bif0 (by decide) h6
 rw[Bool.and_eq_true,decide_eq_true_eq,decide_eq_true_eq] at h1 h2
 exact⟨by omega,by omega,by omega,by omega,h3,h4,h5,h6⟩
theorem keptJ_mem(Q:List Int): ∀(c:Nat) (j:Int),∀x ∈ keptJ Q j c,j≤x∧x<j+c∧memB x Q=false
 |0,_=>by intro x hx;cases hx
 |c+1,j=>by
  intro x hx
  unfold keptJ at hx
  cases hm:memB j Q with
  |true=>
   rw[hm,cond_true] at hx
   obtain⟨h1,h2,h3⟩:=keptJ_mem Q c (j+1) x hx
   exact⟨by omega,by omega,h3⟩
  |false=>
   rw[hm,cond_false] at hx
   rcases List.mem_cons.1 hx with e|e
   ·subst e;exact⟨by omega,by omega,hm⟩
   ·obtain⟨h1,h2,h3⟩:=keptJ_mem Q c (j+1) x e
    exact⟨by omega,by omega,h3⟩
theorem keptJ_len(Q:List Int): ∀(c:Nat) (j:Int),(keptJ Q j c).length≤c
 |0,_=>Nat.le_refl _
 |c+1,j=>by
  unfold keptJ
  have:=keptJ_len Q c (j+1)
  cases memB j Q with
  |true=>rw[cond_true];omega
  |false=>rw[cond_false,List.length_cons];omega
theorem keptJ_lost(Q:List Int): ∀(c:Nat) (j last:Int),0≤j→last<j→lostF (j+c) last (keptJ Q j c)=0
 |0,_,_,_,_=>rfl
 |c+1,j,last,h0,hl=>by
  unfold keptJ
  have e:j+((c+1:Nat):Int)=(j+1)+(c:Int):=by omega
  cases memB j Q with
  |true=>rw[cond_true,e];exact keptJ_lost Q c (j+1) last (by omega) (by omega)
  |false=>
   rw[cond_false]
   unfold lostF withinG
   rw[decide_eq_true h0,decide_eq_true (show j≤j+((c+1:Nat):Int)-1 by omega),decide_eq_true (show j>last from hl),e]
   exact keptJ_lost Q c (j+1) j (by omega) (by omega)
theorem keptB_get{L:List Int}: ∀{l:List (List Int)} {i:Int},keptB L i l=true→ ∀k:Nat,k<l.length→memB (i+k) L=false→okRow (l.getD k [])=true
 |[],_,_,k,hk,_=>by simp at hk
 |xs::l,i,h,0,_,hm=>by
  unfold keptB at h
  rw[Bool.and_eq_true,Bool.or_eq_true] at h
  rw[show i+((0:Nat):Int)=i by omega] at hm
  rcases h.1 with q|q
  ·rw[hm] at q;cases q
  ·exact q
 |xs::l,i,h,k+1,hk,hm=>by
  unfold keptB at h
  rw[Bool.and_eq_true] at h
  exact keptB_get (i:=i+1) h.2 k (by simpa using hk) (by rw[show i+1+(k:Int)=i+((k+1:Nat):Int) by omega];exact hm)
theorem okIx_of{L:List Int}{n:Nat}(h:lostF n (-1) L=0):okIx L n:=fun x hx=>by have:=Pl.lost_mem h x hx;omega
theorem kept_ix(Q:List Int)(n:Nat):okIx (keptJ Q 0 n) n:=fun x hx=>by have:=keptJ_mem Q n 0 x hx;omega
theorem okRs_of{n:Nat}{D P:List (List Int)}{L Q:List Int}(hg:okG D P L Q)(g:Gro D P L Q)(hn:L.length=n)(hk:n≤(keptJ Q 0 P.length).length):okRs n D P L (keptJ Q 0 P.length) where
 d0:=g.d0
 d1:=g.d1
 d8:=hg.2.2.2.2.1
 p1:=g.p1
 p8:=hg.2.2.2.2.2
 ln:=hn
 kn:=hk
 k1:=by have:=keptJ_len Q P.length 0;have:=g.p1;omega
 li:=okIx_of g.lL
 ki:=kept_ix Q P.length
 kb:=g.kb
theorem out_ok{n:Nat}{D P:List (List Int)}{L T:List Int}(r:okRs n D P L T):okOut D (resF D P L T 8 0 D):=⟨(Pl.resF_out 8 0 D r.li).1,Pl.resF_len8 8 0 D r.d8 r.li⟩
theorem all_rows{D O:List (List Int)}{L:List Int}(hs:Pl.sameOut L O D)(kb:keptB L 0 D=true)(h:L.all (rowOk O)=true):O.all okRow=true:=by
 rw[List.all_eq_true]
 intro x hx
 obtain⟨k,hk,rfl⟩:=List.getElem_of_mem hx
 have e:O[k]=O.getD k []:=by rw[List.getD_eq_getElem?_getD,List.getElem?_eq_getElem hk];rfl
 rw[e]
 cases hm:memB (k:Int) L with
 |true=>
  have:=List.all_eq_true.1 h _ (Pl.memB_iff.1 hm)
  unfold rowOk at this
  rw[Int.toNat_natCast] at this
  exact this
 |false=>
  rw[hs.2 k hm]
  exact keptB_get kb k (by rw[← hs.1];exact hk) (by rw[Int.zero_add];exact hm)
theorem resF_nil{D P:List (List Int)}{K:List Int}: ∀(f a:Nat) (O:List (List Int)),resF D P [] K f a O=O
 |0,_,_=>rfl
 |f+1,a,O=>by
  show resF D P [] K f (a+1) (putF O a [] _)=O
  have:putF O a [] (solV (eqsF D P [] K a))=O:=by simp[putF]
  rw[this]
  exact resF_nil f (a+1) O
theorem allrd{S0:Spec}(hS:SpecOK Tryz.prog 84 S0):AllOK Tryz.prog (srd S0):= .cons okgro (.cons ok113 (.cons okclo (.cons ok115 (.cons ok116 (.cons ok100 (.cons okmin (.cons hS (.cons ok82 .nil))))))))
def rdX(D P:List (List Int))(L Q:List Int)(K:AV→List Blk→Prop):Prop:=bif decide ((keptJ Q 0 P.length).length<L.length) then K (.tup [.one .nil,.one (.int .i64 28)]) [] else bif L.all (rowOk (resF D P L (keptJ Q 0 P.length) 8 0 D))&&(keptJ Q 0 P.length).all (parOk (resF D P L (keptJ Q 0 P.length) 8 0 D) P) then K (.tup [.one (.own 0 8),.one (.int .i64 0)]) [.row 22 (.mat .i64 8 (resF D P L (keptJ Q 0 P.length) 8 0 D))] else K (.tup [.one .nil,.one (.int .i64 13)]) []
theorem rdD_ok{S0:Spec}{l1 l2 l4:LoopBy}{D P O:List (List Int)}{L Q T:List Int}{a0 a2 a3 a4 a6 a8 a9 a11 a12 a14 a15 a16 a17 a24 a25 a26 a27 a28 a29 a30 a31 a32 a33 a34 a35 a36 a37 a38 a39 a40 a41 a42 a43 a44 a45 a46 a47 a48 a49 a50 a51 a52 a53 a54 a55 a56 a57 a58 a59 a60 a61 a62 a63 a64 a65 a66 a67 a68 a69 a70 a71 a72 a73 a74 a75 a76 a77 a78 a79 a80 a81 a82 a83 a84 a85 a86 a87 a88 a89 a90 a91 a92 a93 a94 a95 a96 a97 a98 a99 a100 a101 a102 a103 a104 a105 a106 a107 a108 a109 a110 a111 a112 a113 a114 a115 a116 a117 a118 a119 a120 a121 a122 a123 a124 a125:AV}{K:AV→List Blk→Prop}(ho:O.length≤12)(h8:O.all len8=true)(hix:okIx L O.length)(hl:L.length≤4)(hok:L.all (rowOk O)=true→O.all okRow=true)(p8:P.all len8=true)(p4:P.length≤4)(tix:okIx T P.length)(t4:T.length≤4)
  (h:bif L.all (rowOk O)&&T.all (parOk O P) then K (.tup [.one (.own 0 8),.one (.int .i64 0)]) [.row 22 (.mat .i64 8 O)] else K (.tup [.one .nil,.one (.int .i64 13)]) []):
  evRest (ErdM S0 l1 l2 l4 lrdG 0) Tryz.f30 12 { t:=([a0,AV.one (SV.ptr 0 1 0 0),a2,a3,a4,AV.one (SV.own 1 1),a6,AV.one (SV.own 2 8),a8,a9,AV.any,a11,a12,AV.any,a14,a15,a16,a17,AV.any,AV.any,AV.any,AV.any,AV.any,AV.any,a24,a25,a26,a27,a28,a29,a30,a31,a32,a33,a34,a35,a36,a37,a38,a39,a40,a41,a42,a43,a44,a45,a46,a47,a48,a49,a50,a51,a52,a53,a54,a55,a56,a57,a58,a59,a60,a61,a62,a63,a64,a65,a66,a67,a68,a69,a70,a71,a72,a73,a74,a75,a76,a77,a78,a79,a80,a81,a82,a83,a84,a85,a86,a87,a88,a89,a90,a91,a92,a93,a94,a95,a96,a97,a98,a99,a100,a101,a102,a103,a104,a105,a106,a107,a108,a109,a110,a111,a112,a113,a114,a115,a116,a117,a118,a119,a120,a121,a122,a123,a124,a125]++List.replicate 38 .any),σ:=[.cells [.data (.mat .i64 8 D),.data (.mat .i64 8 P),.data (.ints .i64 L),.data (.ints .i64 Q)],.row 3 (.ints .i64 T),.row 22 (.mat .i64 8 O)] } K:=by
 rw[exrdD]
 refine And.intro ⟨h8,hix,rfl,hl,by decide⟩ ?_
 cases hb:L.all (rowOk O) with
 |true=>
  rw[hb,Bool.true_and] at h
  rw[cond_true]
  exact⟨⟨ho,h8,hok hb,p8,p4,tix,rfl,t4,by decide⟩,h⟩
 |false=>rw[hb] at h;exact h
theorem rdN_ok{S0:Spec}{l1 l2 l4 l6:LoopBy}{D P:List (List Int)}{L Q:List Int}{a0 a2 a3 a4 a6 a24 a25 a26 a27 a28 a29 a30 a31 a32 a33 a34 a35 a36 a37 a38 a39 a40 a41 a42 a43 a44:AV}{K:AV→List Blk→Prop}{B:St→Prop}(hL:1≤L.length)(h:K (.tup [.one .nil,.one (.int .i64 28)]) []):
  evStage (ErdM S0 l1 l2 l4 l6 0) Tryz.f30 7 2 { t:=([a0,AV.one (SV.ptr 0 1 0 0),a2,a3,a4,AV.one SV.nil,a6,AV.any,AV.any,AV.any,AV.any,AV.any,AV.any,AV.any,AV.any,AV.any,AV.any,AV.any,AV.any,AV.any,AV.any,AV.any,AV.any,AV.any,a24,a25,a26,a27,a28,a29,a30,a31,a32,a33,a34,a35,a36,a37,a38,a39,a40,a41,a42,a43,a44]++List.replicate 119 .any),σ:=[.cells [.data (.mat .i64 8 D),.data (.mat .i64 8 P),.data (.ints .i64 L),.data (.ints .i64 Q)]] } K B:=by
 rw[exrdN]
 rw[decide_eq_true (by omega)]
 exact h
theorem rdD0b_ok{D P O:List (List Int)}{Q:List Int}{a0 a2 a3 a4 a6 a8 a9 a11 a12 a14 a15 a16 a17 a24 a25 a26 a27 a28 a29 a30 a31 a32 a33 a34 a35 a36 a37 a38 a39 a40 a41 a42 a43 a44 a45 a46 a47 a48 a49 a50 a51 a52 a53 a54 a55 a56 a57 a58 a59 a60 a61 a62 a63 a64 a65 a66 a67 a68 a69 a70 a71 a72 a73 a74 a75 a76 a77 a78 a79 a80 a81 a82 a83 a84 a85 a86 a87 a88 a89 a90 a91 a92 a93 a94 a95 a96 a97 a98 a99 a100 a101 a102 a103 a104 a105 a106 a107 a108 a109 a110 a111 a112 a113 a114 a115 a116 a117 a118 a119 a120 a121 a122 a123 a124 a125:AV}{K:AV→List Blk→Prop}(ho:O.length≤12)(h8:O.all len8=true)(h:K (.tup [.one (.own 0 8),.one (.int .i64 0)]) [.row 22 (.mat .i64 8 O)]):
  evRest (Erd0b 0) Tryz.f30 12 { t:=([a0,AV.one (SV.ptr 0 1 0 0),a2,a3,a4,AV.one SV.nil,a6,AV.one (SV.own 1 8),a8,a9,AV.any,a11,a12,AV.any,a14,a15,a16,a17,AV.any,AV.any,AV.any,AV.any,AV.any,AV.any,a24,a25,a26,a27,a28,a29,a30,a31,a32,a33,a34,a35,a36,a37,a38,a39,a40,a41,a42,a43,a44,a45,a46,a47,a48,a49,a50,a51,a52,a53,a54,a55,a56,a57,a58,a59,a60,a61,a62,a63,a64,a65,a66,a67,a68,a69,a70,a71,a72,a73,a74,a75,a76,a77,a78,a79,a80,a81,a82,a83,a84,a85,a86,a87,a88,a89,a90,a91,a92,a93,a94,a95,a96,a97,a98,a99,a100,a101,a102,a103,a104,a105,a106,a107,a108,a109,a110,a111,a112,a113,a114,a115,a116,a117,a118,a119,a120,a121,a122,a123,a124,a125]++List.replicate 38 .any),σ:=[.cells [.data (.mat .i64 8 D),.data (.mat .i64 8 P),.data (.ints .i64 []),.data (.ints .i64 Q)],.row 22 (.mat .i64 8 O)] } K:=by
 rw[exrdD0b]
 refine And.intro ⟨h8,(fun x (hx:x ∈ ([]:List Int))=>by cases hx),rfl,by decide,by decide⟩ ?_
 exact h
theorem rdC1_ok{D P:List (List Int)}{L Q T:List Int}{a0 a2 a3 a4 a6 a24 a25 a26 a27 a28 a29 a30 a31 a32 a33 a34 a35 a36 a37 a38 a39 a40 a41 a42 a43 a44:AV}{K:AV→List Blk→Prop}{B:St→Prop}(hL:L.length=1)(hg:okG D P L Q)(g:Gro D P L Q)(hT:T=keptJ Q 0 P.length)(hB:B=fun s=>evRest (Erd1 0) Tryz.f30 12 s K)(h:rdX D P L Q K):
  evStage (Erd1 0) Tryz.f30 7 5 { t:=([a0,AV.one (SV.ptr 0 1 0 0),a2,a3,a4,AV.one (SV.own 1 1),a6,AV.any,AV.any,AV.any,AV.any,AV.any,AV.any,AV.any,AV.any,AV.any,AV.any,AV.any,AV.any,AV.any,AV.any,AV.any,AV.any,AV.any,a24,a25,a26,a27,a28,a29,a30,a31,a32,a33,a34,a35,a36,a37,a38,a39,a40,a41,a42,a43,a44]++List.replicate 119 .any),σ:=[.cells [.data (.mat .i64 8 D),.data (.mat .i64 8 P),.data (.ints .i64 L),.data (.ints .i64 Q)],.row 3 (.ints .i64 T)] } K B:=by
 rw[exrdC1]
 unfold rdX at h
 subst hT
 by_cases hlt:(keptJ Q 0 P.length).length<L.length
 ·rw[decide_eq_true hlt] at h
  rw[decide_eq_true (show(L.length:Int)>((keptJ Q 0 P.length).length:Int) by omega)]
  exact h
 ·have hk1:=keptJ_len Q P.length 0
  have hp1:=g.p1
  have hd0:=g.d0
  have hd1:=g.d1
  rw[decide_eq_false hlt,cond_false] at h
  rw[decide_eq_false (show¬((L.length:Int)>((keptJ Q 0 P.length).length:Int)) by omega),cond_false]
  have r:=okRs_of (n:=1) hg g (by omega) (by omega)
  refine And.intro ⟨by omega,by omega⟩ (And.intro ⟨r,⟨rfl,r.d8⟩,by decide,by decide⟩ ?_)
  have ho:=out_ok r
  subst hB
  exact rdD_ok (by rw[ho.1];exact g.d1) ho.2 (by rw[ho.1];exact r.li) (by omega) (all_rows (Pl.resF_out 8 0 D r.li) r.kb) r.p8 hp1 r.ki r.k1 h
theorem rdB1_ok{D P:List (List Int)}{L Q:List Int}{a0 a2 a3 a4 a24 a25 a26 a27 a28:AV}{K:AV→List Blk→Prop}{B:St→Prop}(hL:L.length=1)(hg:okG D P L Q)(g:Gro D P L Q)(hB:B=fun s=>evRest (Erd1 0) Tryz.f30 7 s K)(h:rdX D P L Q K):
  evStage (Erd1 0) Tryz.f30 4 3 { t:=([a0,AV.one (SV.ptr 0 1 0 0),a2,a3,a4,AV.any,AV.any,AV.any,AV.any,AV.any,AV.any,AV.any,AV.any,AV.any,AV.any,AV.any,AV.any,AV.any,AV.any,AV.any,AV.any,AV.any,AV.any,AV.any,a24,a25,a26,a27,a28]++List.replicate 135 .any),σ:=[.cells [.data (.mat .i64 8 D),.data (.mat .i64 8 P),.data (.ints .i64 L),.data (.ints .i64 Q)]] } K B:=by
 rw[exrdB]
 have ez:((P.length:Int)-0).toNat=P.length:=by omega
 rw[ez]
 refine And.intro ⟨hg,rfl,by decide,by omega⟩ ?_
 cases he:(keptJ Q 0 P.length).isEmpty with
 |true=>
  have e0:(keptJ Q 0 P.length).length=0:=by rw[List.isEmpty_iff.1 he];rfl
  unfold rdX at h
  rw[decide_eq_true (show(keptJ Q 0 P.length).length<L.length by omega)] at h
  rw[cond_true]
  subst hB
  show evRest (Erd1 0) Tryz.f30 7 _ K
  rw[evRest_stage (Erd1 0) Tryz.f30 7 2]
  exact rdN_ok (by omega) h
 |false=>
  rw[cond_false]
  subst hB
  show evRest (Erd1 0) Tryz.f30 7 _ K
  rw[evRest_stage (Erd1 0) Tryz.f30 7 5]
  exact rdC1_ok hL hg g rfl rfl h
theorem okrd1:SpecOK Tryz.prog 30 rdS1:=by
 refine specOKc (n:=164) (m:=0) (lps:=lrd lrdB1 lrdC1 lrdE lrdG) [] [139] (allrd oksl1) Tryz.func30 (by kernel_rfl) (by kernel_rfl) (theLoops (n:=8) (by kernel_rfl) fun i hi=> ?_) fun args σ K h=> ?_
 ·match i,hi with
  |0,_=>exact loopHyp_frm (E':=Erd1 1) (key:=6) (m:=1) (by kernel_rfl) rfl rfl (lokrd_0 oksl1)
  |1,_=>exact loopHyp_frm (E':=Erd1 3) (key:=15) (m:=3) (by kernel_rfl) rfl rfl lokrd1_1
  |2,_=>exact loopHyp_frm (E':=Erd1 2) (key:=19) (m:=2) (by kernel_rfl) rfl rfl lokrd1_2
  |3,_=>exact loopHyp_frm (E':=Erd1 0) (key:=23) (m:=0) (by kernel_rfl) rfl rfl (lokrd_3 oksl1)
  |4,_=>exact loopHyp_frm (E':=Erd1 3) (key:=31) (m:=3) (by kernel_rfl) rfl rfl (lokrd_4 oksl1)
  |5,_=>exact loopHyp_frm (E':=Erd1 1) (key:=37) (m:=1) (by kernel_rfl) rfl rfl (lokrd_5 oksl1)
  |6,_=>exact loopHyp_frm (E':=Erd1 3) (key:=43) (m:=3) (by kernel_rfl) rfl rfl (lokrd_6 oksl1)
  |7,_=>exact loopHyp_frm (E':=Erd1 1) (key:=46) (m:=1) (by kernel_rfl) rfl rfl (lokrd_7 oksl1)
 unfold rdS1 at h
 split at h
 rotate_right
 ·exact h.elim
 rename_i D P L Q
 obtain⟨⟨hg,hn⟩,h⟩:=h
 show evFn (Erd1 0) Tryz.f30 _ [] K
 rw[evFn_rest (by kernel_rfl) (by kernel_rfl),evRest_stage (Erd1 0) Tryz.f30 0 4,exrdA]
 refine And.intro hg ?_
 unfold rdK at h
 by_cases he:groE D P L Q=0
 ·rw[show(groE D P L Q==0)=true by rw[he];rfl,cond_true] at h
  rw[show(groE D P L Q != 0)=false by rw[he];rfl,cond_false]
  show evRest (Erd1 0) Tryz.f30 (0+4) _ K
  rw[evRest_stage (Erd1 0) Tryz.f30 (0+4) 3]
  exact rdB1_ok (by omega) hg (gro0 he) rfl h
 ·rw[show(groE D P L Q==0)=false by simpa using he,cond_false] at h
  rw[show(groE D P L Q != 0)=true by simpa using he,cond_true]
  exact h
theorem rdC2_ok{D P:List (List Int)}{L Q T:List Int}{a0 a2 a3 a4 a6 a24 a25 a26 a27 a28 a29 a30 a31 a32 a33 a34 a35 a36 a37 a38 a39 a40 a41 a42 a43 a44:AV}{K:AV→List Blk→Prop}{B:St→Prop}(hL:L.length=2)(hg:okG D P L Q)(g:Gro D P L Q)(hT:T=keptJ Q 0 P.length)(hB:B=fun s=>evRest (Erd2 0) Tryz.f30 12 s K)(h:rdX D P L Q K):
  evStage (Erd2 0) Tryz.f30 7 5 { t:=([a0,AV.one (SV.ptr 0 1 0 0),a2,a3,a4,AV.one (SV.own 1 1),a6,AV.any,AV.any,AV.any,AV.any,AV.any,AV.any,AV.any,AV.any,AV.any,AV.any,AV.any,AV.any,AV.any,AV.any,AV.any,AV.any,AV.any,a24,a25,a26,a27,a28,a29,a30,a31,a32,a33,a34,a35,a36,a37,a38,a39,a40,a41,a42,a43,a44]++List.replicate 119 .any),σ:=[.cells [.data (.mat .i64 8 D),.data (.mat .i64 8 P),.data (.ints .i64 L),.data (.ints .i64 Q)],.row 3 (.ints .i64 T)] } K B:=by
 rw[exrdC2]
 unfold rdX at h
 subst hT
 by_cases hlt:(keptJ Q 0 P.length).length<L.length
 ·rw[decide_eq_true hlt] at h
  rw[decide_eq_true (show(L.length:Int)>((keptJ Q 0 P.length).length:Int) by omega)]
  exact h
 ·have hk1:=keptJ_len Q P.length 0
  have hp1:=g.p1
  have hd0:=g.d0
  have hd1:=g.d1
  rw[decide_eq_false hlt,cond_false] at h
  rw[decide_eq_false (show¬((L.length:Int)>((keptJ Q 0 P.length).length:Int)) by omega),cond_false]
  have r:=okRs_of (n:=2) hg g (by omega) (by omega)
  refine And.intro ⟨by omega,by omega⟩ (And.intro ⟨r,⟨rfl,r.d8⟩,by decide,by decide⟩ ?_)
  have ho:=out_ok r
  subst hB
  exact rdD_ok (by rw[ho.1];exact g.d1) ho.2 (by rw[ho.1];exact r.li) (by omega) (all_rows (Pl.resF_out 8 0 D r.li) r.kb) r.p8 hp1 r.ki r.k1 h
theorem rdB2_ok{D P:List (List Int)}{L Q:List Int}{a0 a2 a3 a4 a24 a25 a26 a27 a28:AV}{K:AV→List Blk→Prop}{B:St→Prop}(hL:L.length=2)(hg:okG D P L Q)(g:Gro D P L Q)(hB:B=fun s=>evRest (Erd2 0) Tryz.f30 7 s K)(h:rdX D P L Q K):
  evStage (Erd2 0) Tryz.f30 4 3 { t:=([a0,AV.one (SV.ptr 0 1 0 0),a2,a3,a4,AV.any,AV.any,AV.any,AV.any,AV.any,AV.any,AV.any,AV.any,AV.any,AV.any,AV.any,AV.any,AV.any,AV.any,AV.any,AV.any,AV.any,AV.any,AV.any,a24,a25,a26,a27,a28]++List.replicate 135 .any),σ:=[.cells [.data (.mat .i64 8 D),.data (.mat .i64 8 P),.data (.ints .i64 L),.data (.ints .i64 Q)]] } K B:=by
 rw[exrdB]
 have ez:((P.length:Int)-0).toNat=P.length:=by omega
 rw[ez]
 refine And.intro ⟨hg,rfl,by decide,by omega⟩ ?_
 cases he:(keptJ Q 0 P.length).isEmpty with
 |true=>
  have e0:(keptJ Q 0 P.length).length=0:=by rw[List.isEmpty_iff.1 he];rfl
  unfold rdX at h
  rw[decide_eq_true (show(keptJ Q 0 P.length).length<L.length by omega)] at h
  rw[cond_true]
  subst hB
  show evRest (Erd2 0) Tryz.f30 7 _ K
  rw[evRest_stage (Erd2 0) Tryz.f30 7 2]
  exact rdN_ok (by omega) h
 |false=>
  rw[cond_false]
  subst hB
  show evRest (Erd2 0) Tryz.f30 7 _ K
  rw[evRest_stage (Erd2 0) Tryz.f30 7 5]
  exact rdC2_ok hL hg g rfl rfl h
theorem okrd2:SpecOK Tryz.prog 30 rdS2:=by
 refine specOKc (n:=164) (m:=0) (lps:=lrd lrdB2 lrdC2 lrdE lrdG) [] [139] (allrd oksl2) Tryz.func30 (by kernel_rfl) (by kernel_rfl) (theLoops (n:=8) (by kernel_rfl) fun i hi=> ?_) fun args σ K h=> ?_
 ·match i,hi with
  |0,_=>exact loopHyp_frm (E':=Erd2 1) (key:=6) (m:=1) (by kernel_rfl) rfl rfl (lokrd_0 oksl2)
  |1,_=>exact loopHyp_frm (E':=Erd2 3) (key:=15) (m:=3) (by kernel_rfl) rfl rfl lokrd2_1
  |2,_=>exact loopHyp_frm (E':=Erd2 2) (key:=19) (m:=2) (by kernel_rfl) rfl rfl lokrd2_2
  |3,_=>exact loopHyp_frm (E':=Erd2 0) (key:=23) (m:=0) (by kernel_rfl) rfl rfl (lokrd_3 oksl2)
  |4,_=>exact loopHyp_frm (E':=Erd2 3) (key:=31) (m:=3) (by kernel_rfl) rfl rfl (lokrd_4 oksl2)
  |5,_=>exact loopHyp_frm (E':=Erd2 1) (key:=37) (m:=1) (by kernel_rfl) rfl rfl (lokrd_5 oksl2)
  |6,_=>exact loopHyp_frm (E':=Erd2 3) (key:=43) (m:=3) (by kernel_rfl) rfl rfl (lokrd_6 oksl2)
  |7,_=>exact loopHyp_frm (E':=Erd2 1) (key:=46) (m:=1) (by kernel_rfl) rfl rfl (lokrd_7 oksl2)
 unfold rdS2 at h
 split at h
 rotate_right
 ·exact h.elim
 rename_i D P L Q
 obtain⟨⟨hg,hn⟩,h⟩:=h
 show evFn (Erd2 0) Tryz.f30 _ [] K
 rw[evFn_rest (by kernel_rfl) (by kernel_rfl),evRest_stage (Erd2 0) Tryz.f30 0 4,exrdA]
 refine And.intro hg ?_
 unfold rdK at h
 by_cases he:groE D P L Q=0
 ·rw[show(groE D P L Q==0)=true by rw[he];rfl,cond_true] at h
  rw[show(groE D P L Q != 0)=false by rw[he];rfl,cond_false]
  show evRest (Erd2 0) Tryz.f30 (0+4) _ K
  rw[evRest_stage (Erd2 0) Tryz.f30 (0+4) 3]
  exact rdB2_ok (by omega) hg (gro0 he) rfl h
 ·rw[show(groE D P L Q==0)=false by simpa using he,cond_false] at h
  rw[show(groE D P L Q != 0)=true by simpa using he,cond_true]
  exact h
theorem rdC3_ok{D P:List (List Int)}{L Q T:List Int}{a0 a2 a3 a4 a6 a24 a25 a26 a27 a28 a29 a30 a31 a32 a33 a34 a35 a36 a37 a38 a39 a40 a41 a42 a43 a44:AV}{K:AV→List Blk→Prop}{B:St→Prop}(hL:L.length=3)(hg:okG D P L Q)(g:Gro D P L Q)(hT:T=keptJ Q 0 P.length)(hB:B=fun s=>evRest (Erd3 0) Tryz.f30 12 s K)(h:rdX D P L Q K):
  evStage (Erd3 0) Tryz.f30 7 5 { t:=([a0,AV.one (SV.ptr 0 1 0 0),a2,a3,a4,AV.one (SV.own 1 1),a6,AV.any,AV.any,AV.any,AV.any,AV.any,AV.any,AV.any,AV.any,AV.any,AV.any,AV.any,AV.any,AV.any,AV.any,AV.any,AV.any,AV.any,a24,a25,a26,a27,a28,a29,a30,a31,a32,a33,a34,a35,a36,a37,a38,a39,a40,a41,a42,a43,a44]++List.replicate 119 .any),σ:=[.cells [.data (.mat .i64 8 D),.data (.mat .i64 8 P),.data (.ints .i64 L),.data (.ints .i64 Q)],.row 3 (.ints .i64 T)] } K B:=by
 rw[exrdC3]
 unfold rdX at h
 subst hT
 by_cases hlt:(keptJ Q 0 P.length).length<L.length
 ·rw[decide_eq_true hlt] at h
  rw[decide_eq_true (show(L.length:Int)>((keptJ Q 0 P.length).length:Int) by omega)]
  exact h
 ·have hk1:=keptJ_len Q P.length 0
  have hp1:=g.p1
  have hd0:=g.d0
  have hd1:=g.d1
  rw[decide_eq_false hlt,cond_false] at h
  rw[decide_eq_false (show¬((L.length:Int)>((keptJ Q 0 P.length).length:Int)) by omega),cond_false]
  have r:=okRs_of (n:=3) hg g (by omega) (by omega)
  refine And.intro ⟨by omega,by omega⟩ (And.intro ⟨r,⟨rfl,r.d8⟩,by decide,by decide⟩ ?_)
  have ho:=out_ok r
  subst hB
  exact rdD_ok (by rw[ho.1];exact g.d1) ho.2 (by rw[ho.1];exact r.li) (by omega) (all_rows (Pl.resF_out 8 0 D r.li) r.kb) r.p8 hp1 r.ki r.k1 h
theorem rdB3_ok{D P:List (List Int)}{L Q:List Int}{a0 a2 a3 a4 a24 a25 a26 a27 a28:AV}{K:AV→List Blk→Prop}{B:St→Prop}(hL:L.length=3)(hg:okG D P L Q)(g:Gro D P L Q)(hB:B=fun s=>evRest (Erd3 0) Tryz.f30 7 s K)(h:rdX D P L Q K):
  evStage (Erd3 0) Tryz.f30 4 3 { t:=([a0,AV.one (SV.ptr 0 1 0 0),a2,a3,a4,AV.any,AV.any,AV.any,AV.any,AV.any,AV.any,AV.any,AV.any,AV.any,AV.any,AV.any,AV.any,AV.any,AV.any,AV.any,AV.any,AV.any,AV.any,AV.any,a24,a25,a26,a27,a28]++List.replicate 135 .any),σ:=[.cells [.data (.mat .i64 8 D),.data (.mat .i64 8 P),.data (.ints .i64 L),.data (.ints .i64 Q)]] } K B:=by
 rw[exrdB]
 have ez:((P.length:Int)-0).toNat=P.length:=by omega
 rw[ez]
 refine And.intro ⟨hg,rfl,by decide,by omega⟩ ?_
 cases he:(keptJ Q 0 P.length).isEmpty with
 |true=>
  have e0:(keptJ Q 0 P.length).length=0:=by rw[List.isEmpty_iff.1 he];rfl
  unfold rdX at h
  rw[decide_eq_true (show(keptJ Q 0 P.length).length<L.length by omega)] at h
  rw[cond_true]
  subst hB
  show evRest (Erd3 0) Tryz.f30 7 _ K
  rw[evRest_stage (Erd3 0) Tryz.f30 7 2]
  exact rdN_ok (by omega) h
 |false=>
  rw[cond_false]
  subst hB
  show evRest (Erd3 0) Tryz.f30 7 _ K
  rw[evRest_stage (Erd3 0) Tryz.f30 7 5]
  exact rdC3_ok hL hg g rfl rfl h
theorem okrd3:SpecOK Tryz.prog 30 rdS3:=by
 refine specOKc (n:=164) (m:=0) (lps:=lrd lrdB3 lrdC3 lrdE lrdG) [] [139] (allrd oksl3) Tryz.func30 (by kernel_rfl) (by kernel_rfl) (theLoops (n:=8) (by kernel_rfl) fun i hi=> ?_) fun args σ K h=> ?_
 ·match i,hi with
  |0,_=>exact loopHyp_frm (E':=Erd3 1) (key:=6) (m:=1) (by kernel_rfl) rfl rfl (lokrd_0 oksl3)
  |1,_=>exact loopHyp_frm (E':=Erd3 3) (key:=15) (m:=3) (by kernel_rfl) rfl rfl lokrd3_1
  |2,_=>exact loopHyp_frm (E':=Erd3 2) (key:=19) (m:=2) (by kernel_rfl) rfl rfl lokrd3_2
  |3,_=>exact loopHyp_frm (E':=Erd3 0) (key:=23) (m:=0) (by kernel_rfl) rfl rfl (lokrd_3 oksl3)
  |4,_=>exact loopHyp_frm (E':=Erd3 3) (key:=31) (m:=3) (by kernel_rfl) rfl rfl (lokrd_4 oksl3)
  |5,_=>exact loopHyp_frm (E':=Erd3 1) (key:=37) (m:=1) (by kernel_rfl) rfl rfl (lokrd_5 oksl3)
  |6,_=>exact loopHyp_frm (E':=Erd3 3) (key:=43) (m:=3) (by kernel_rfl) rfl rfl (lokrd_6 oksl3)
  |7,_=>exact loopHyp_frm (E':=Erd3 1) (key:=46) (m:=1) (by kernel_rfl) rfl rfl (lokrd_7 oksl3)
 unfold rdS3 at h
 split at h
 rotate_right
 ·exact h.elim
 rename_i D P L Q
 obtain⟨⟨hg,hn⟩,h⟩:=h
 show evFn (Erd3 0) Tryz.f30 _ [] K
 rw[evFn_rest (by kernel_rfl) (by kernel_rfl),evRest_stage (Erd3 0) Tryz.f30 0 4,exrdA]
 refine And.intro hg ?_
 unfold rdK at h
 by_cases he:groE D P L Q=0
 ·rw[show(groE D P L Q==0)=true by rw[he];rfl,cond_true] at h
  rw[show(groE D P L Q != 0)=false by rw[he];rfl,cond_false]
  show evRest (Erd3 0) Tryz.f30 (0+4) _ K
  rw[evRest_stage (Erd3 0) Tryz.f30 (0+4) 3]
  exact rdB3_ok (by omega) hg (gro0 he) rfl h
 ·rw[show(groE D P L Q==0)=false by simpa using he,cond_false] at h
  rw[show(groE D P L Q != 0)=true by simpa using he,cond_true]
  exact h
theorem rdC4_ok{D P:List (List Int)}{L Q T:List Int}{a0 a2 a3 a4 a6 a24 a25 a26 a27 a28 a29 a30 a31 a32 a33 a34 a35 a36 a37 a38 a39 a40 a41 a42 a43 a44:AV}{K:AV→List Blk→Prop}{B:St→Prop}(hL:4≤L.length)(hg:okG D P L Q)(g:Gro D P L Q)(hT:T=keptJ Q 0 P.length)(hB:B=fun s=>evRest (Erd4 0) Tryz.f30 12 s K)(h:rdX D P L Q K):
  evStage (Erd4 0) Tryz.f30 7 5 { t:=([a0,AV.one (SV.ptr 0 1 0 0),a2,a3,a4,AV.one (SV.own 1 1),a6,AV.any,AV.any,AV.any,AV.any,AV.any,AV.any,AV.any,AV.any,AV.any,AV.any,AV.any,AV.any,AV.any,AV.any,AV.any,AV.any,AV.any,a24,a25,a26,a27,a28,a29,a30,a31,a32,a33,a34,a35,a36,a37,a38,a39,a40,a41,a42,a43,a44]++List.replicate 119 .any),σ:=[.cells [.data (.mat .i64 8 D),.data (.mat .i64 8 P),.data (.ints .i64 L),.data (.ints .i64 Q)],.row 3 (.ints .i64 T)] } K B:=by
 rw[exrdC4]
 unfold rdX at h
 subst hT
 by_cases hlt:(keptJ Q 0 P.length).length<L.length
 ·rw[decide_eq_true hlt] at h
  rw[decide_eq_true (show(L.length:Int)>((keptJ Q 0 P.length).length:Int) by omega)]
  exact h
 ·have hk1:=keptJ_len Q P.length 0
  have hp1:=g.p1
  have hd0:=g.d0
  have hd1:=g.d1
  rw[decide_eq_false hlt,cond_false] at h
  rw[decide_eq_false (show¬((L.length:Int)>((keptJ Q 0 P.length).length:Int)) by omega),cond_false]
  have r:=okRs_of (n:=4) hg g (by omega) (by omega)
  refine And.intro ⟨by omega,by omega⟩ (And.intro ⟨r,⟨rfl,r.d8⟩,by decide,by decide⟩ ?_)
  have ho:=out_ok r
  subst hB
  exact rdD_ok (by rw[ho.1];exact g.d1) ho.2 (by rw[ho.1];exact r.li) (by omega) (all_rows (Pl.resF_out 8 0 D r.li) r.kb) r.p8 hp1 r.ki r.k1 h
theorem rdB4_ok{D P:List (List Int)}{L Q:List Int}{a0 a2 a3 a4 a24 a25 a26 a27 a28:AV}{K:AV→List Blk→Prop}{B:St→Prop}(hL:4≤L.length)(hg:okG D P L Q)(g:Gro D P L Q)(hB:B=fun s=>evRest (Erd4 0) Tryz.f30 7 s K)(h:rdX D P L Q K):
  evStage (Erd4 0) Tryz.f30 4 3 { t:=([a0,AV.one (SV.ptr 0 1 0 0),a2,a3,a4,AV.any,AV.any,AV.any,AV.any,AV.any,AV.any,AV.any,AV.any,AV.any,AV.any,AV.any,AV.any,AV.any,AV.any,AV.any,AV.any,AV.any,AV.any,AV.any,a24,a25,a26,a27,a28]++List.replicate 135 .any),σ:=[.cells [.data (.mat .i64 8 D),.data (.mat .i64 8 P),.data (.ints .i64 L),.data (.ints .i64 Q)]] } K B:=by
 rw[exrdB]
 have ez:((P.length:Int)-0).toNat=P.length:=by omega
 rw[ez]
 refine And.intro ⟨hg,rfl,by decide,by omega⟩ ?_
 cases he:(keptJ Q 0 P.length).isEmpty with
 |true=>
  have e0:(keptJ Q 0 P.length).length=0:=by rw[List.isEmpty_iff.1 he];rfl
  unfold rdX at h
  rw[decide_eq_true (show(keptJ Q 0 P.length).length<L.length by omega)] at h
  rw[cond_true]
  subst hB
  show evRest (Erd4 0) Tryz.f30 7 _ K
  rw[evRest_stage (Erd4 0) Tryz.f30 7 2]
  exact rdN_ok (by omega) h
 |false=>
  rw[cond_false]
  subst hB
  show evRest (Erd4 0) Tryz.f30 7 _ K
  rw[evRest_stage (Erd4 0) Tryz.f30 7 5]
  exact rdC4_ok hL hg g rfl rfl h
theorem okrd4:SpecOK Tryz.prog 30 rdS4:=by
 refine specOKc (n:=164) (m:=0) (lps:=lrd lrdB4 lrdC4 lrdE lrdG) [] [139] (allrd oksl4) Tryz.func30 (by kernel_rfl) (by kernel_rfl) (theLoops (n:=8) (by kernel_rfl) fun i hi=> ?_) fun args σ K h=> ?_
 ·match i,hi with
  |0,_=>exact loopHyp_frm (E':=Erd4 1) (key:=6) (m:=1) (by kernel_rfl) rfl rfl (lokrd_0 oksl4)
  |1,_=>exact loopHyp_frm (E':=Erd4 3) (key:=15) (m:=3) (by kernel_rfl) rfl rfl lokrd4_1
  |2,_=>exact loopHyp_frm (E':=Erd4 2) (key:=19) (m:=2) (by kernel_rfl) rfl rfl lokrd4_2
  |3,_=>exact loopHyp_frm (E':=Erd4 0) (key:=23) (m:=0) (by kernel_rfl) rfl rfl (lokrd_3 oksl4)
  |4,_=>exact loopHyp_frm (E':=Erd4 3) (key:=31) (m:=3) (by kernel_rfl) rfl rfl (lokrd_4 oksl4)
  |5,_=>exact loopHyp_frm (E':=Erd4 1) (key:=37) (m:=1) (by kernel_rfl) rfl rfl (lokrd_5 oksl4)
  |6,_=>exact loopHyp_frm (E':=Erd4 3) (key:=43) (m:=3) (by kernel_rfl) rfl rfl (lokrd_6 oksl4)
  |7,_=>exact loopHyp_frm (E':=Erd4 1) (key:=46) (m:=1) (by kernel_rfl) rfl rfl (lokrd_7 oksl4)
 unfold rdS4 at h
 split at h
 rotate_right
 ·exact h.elim
 rename_i D P L Q
 obtain⟨⟨hg,hn⟩,h⟩:=h
 show evFn (Erd4 0) Tryz.f30 _ [] K
 rw[evFn_rest (by kernel_rfl) (by kernel_rfl),evRest_stage (Erd4 0) Tryz.f30 0 4,exrdA]
 refine And.intro hg ?_
 unfold rdK at h
 by_cases he:groE D P L Q=0
 ·rw[show(groE D P L Q==0)=true by rw[he];rfl,cond_true] at h
  rw[show(groE D P L Q != 0)=false by rw[he];rfl,cond_false]
  show evRest (Erd4 0) Tryz.f30 (0+4) _ K
  rw[evRest_stage (Erd4 0) Tryz.f30 (0+4) 3]
  exact rdB4_ok (by omega) hg (gro0 he) rfl h
 ·rw[show(groE D P L Q==0)=false by simpa using he,cond_false] at h
  rw[show(groE D P L Q != 0)=true by simpa using he,cond_true]
  exact h
end Go.Ev
namespace Go.Ev
open Go Go.Proofs
attribute [local irreducible] evFn evBody evRound
attribute [local irreducible] evStage evRest
set_option maxRecDepth 20000
theorem okslz:SpecOK Tryz.prog 84 slZ:=by
 refine specOK (n:=95) (m:=0) (lps:=[(3,.unroll 1),(8,.unroll 1),(13,.unroll 1),(18,.unroll 1),(25,.unroll 1)]) (.cons okinv2 (.cons ok130 (.cons okmin .nil))) Tryz.func84 (by kernel_rfl) (by kernel_rfl) (theLoops (n:=5) (by kernel_rfl) fun i hi=> ?_) fun args σ K h=> ?_
 ·match i,hi with
  |0,_=>exact loopHyp_none (key:=3) (n:=1) (by kernel_rfl) rfl
  |1,_=>exact loopHyp_none (key:=8) (n:=1) (by kernel_rfl) rfl
  |2,_=>exact loopHyp_none (key:=13) (n:=1) (by kernel_rfl) rfl
  |3,_=>exact loopHyp_none (key:=18) (n:=1) (by kernel_rfl) rfl
  |4,_=>exact loopHyp_none (key:=25) (n:=1) (by kernel_rfl) rfl
 unfold slZ at h
 split at h
 rotate_right
 ·exact h.elim
 rw[exslz K]
 exact h
theorem rdC0a_ok{D P:List (List Int)}{Q T:List Int}{a0 a2 a3 a4 a6 a24 a25 a26 a27 a28 a29 a30 a31 a32 a33 a34 a35 a36 a37 a38 a39 a40 a41 a42 a43 a44:AV}{K:AV→List Blk→Prop}{B:St→Prop}(hg:okG D P [] Q)(g:Gro D P [] Q)(hT:T=keptJ Q 0 P.length)(hB:B=fun s=>evRest (Erd0a 0) Tryz.f30 12 s K)
  (h:bif (keptJ Q 0 P.length).all (parOk D P) then K (.tup [.one (.own 0 8),.one (.int .i64 0)]) [.row 22 (.mat .i64 8 D)] else K (.tup [.one .nil,.one (.int .i64 13)]) []):
  evStage (Erd0a 0) Tryz.f30 7 5 { t:=([a0,AV.one (SV.ptr 0 1 0 0),a2,a3,a4,AV.one (SV.own 1 1),a6,AV.any,AV.any,AV.any,AV.any,AV.any,AV.any,AV.any,AV.any,AV.any,AV.any,AV.any,AV.any,AV.any,AV.any,AV.any,AV.any,AV.any,a24,a25,a26,a27,a28,a29,a30,a31,a32,a33,a34,a35,a36,a37,a38,a39,a40,a41,a42,a43,a44]++List.replicate 119 .any),σ:=[.cells [.data (.mat .i64 8 D),.data (.mat .i64 8 P),.data (.ints .i64 []),.data (.ints .i64 Q)],.row 3 (.ints .i64 T)] } K B:=by
 rw[exrdC0a]
 subst hT
 have hk1:=keptJ_len Q P.length 0
 have hp1:=g.p1
 have hd0:=g.d0
 have hd1:=g.d1
 have hok:=all_rows (O:=D) (L:=[]) ⟨rfl,fun _ _=>rfl⟩ g.kb rfl
 refine And.intro ⟨by omega,by omega⟩ ?_
 subst hB
 have h2:bif ([]:List Int).all (rowOk D)&&(keptJ Q 0 P.length).all (parOk D P) then K (.tup [.one (.own 0 8),.one (.int .i64 0)]) [.row 22 (.mat .i64 8 D)] else K (.tup [.one .nil,.one (.int .i64 13)]) []:=by
  rw[List.all_nil,Bool.true_and];exact h
 clear h
 exact rdD_ok hd1 hg.2.2.2.2.1 (fun x (hx:x ∈ ([]:List Int))=>by cases hx) (by decide) (fun _=>hok) hg.2.2.2.2.2 hp1 (kept_ix Q P.length) (by omega) h2
theorem rdB0a_ok{D P:List (List Int)}{Q:List Int}{a0 a2 a3 a4 a24 a25 a26 a27 a28:AV}{K:AV→List Blk→Prop}{B:St→Prop}(hg:okG D P [] Q)(g:Gro D P [] Q)(he:(keptJ Q 0 P.length).isEmpty=false)(hB:B=fun s=>evRest (Erd0a 0) Tryz.f30 7 s K)
  (h:bif (keptJ Q 0 P.length).all (parOk D P) then K (.tup [.one (.own 0 8),.one (.int .i64 0)]) [.row 22 (.mat .i64 8 D)] else K (.tup [.one .nil,.one (.int .i64 13)]) []):
  evStage (Erd0a 0) Tryz.f30 4 3 { t:=([a0,AV.one (SV.ptr 0 1 0 0),a2,a3,a4,AV.any,AV.any,AV.any,AV.any,AV.any,AV.any,AV.any,AV.any,AV.any,AV.any,AV.any,AV.any,AV.any,AV.any,AV.any,AV.any,AV.any,AV.any,AV.any,a24,a25,a26,a27,a28]++List.replicate 135 .any),σ:=[.cells [.data (.mat .i64 8 D),.data (.mat .i64 8 P),.data (.ints .i64 []),.data (.ints .i64 Q)]] } K B:=by
 rw[exrdB]
 have ez:((P.length:Int)-0).toNat=P.length:=by omega
 rw[ez]
 refine And.intro ⟨hg,rfl,by decide,by omega⟩ ?_
 rw[he,cond_false]
 subst hB
 show evRest (Erd0a 0) Tryz.f30 7 _ K
 rw[evRest_stage (Erd0a 0) Tryz.f30 7 5]
 exact rdC0a_ok hg g rfl rfl h
theorem okrd0a:SpecOK Tryz.prog 30 rdS0a:=by
 refine specOKc (n:=164) (m:=0) (lps:=lrd (.unroll 9) (.unroll 1) (.unroll 1) lrdG) [] [139] (allrd okslz) Tryz.func30 (by kernel_rfl) (by kernel_rfl) (theLoops (n:=8) (by kernel_rfl) fun i hi=> ?_) fun args σ K h=> ?_
 ·match i,hi with
  |0,_=>exact loopHyp_frm (E':=Erd0a 1) (key:=6) (m:=1) (by kernel_rfl) rfl rfl (lokrd_0 okslz)
  |1,_=>exact loopHyp_none (key:=15) (n:=9) (by kernel_rfl) rfl
  |2,_=>exact loopHyp_none (key:=19) (n:=1) (by kernel_rfl) rfl
  |3,_=>exact loopHyp_frm (E':=Erd0a 0) (key:=23) (m:=0) (by kernel_rfl) rfl rfl (lokrd_3 okslz)
  |4,_=>exact loopHyp_none (key:=31) (n:=1) (by kernel_rfl) rfl
  |5,_=>exact loopHyp_frm (E':=Erd0a 1) (key:=37) (m:=1) (by kernel_rfl) rfl rfl (lokrd_5 okslz)
  |6,_=>exact loopHyp_frm (E':=Erd0a 3) (key:=43) (m:=3) (by kernel_rfl) rfl rfl (lokrd_6 okslz)
  |7,_=>exact loopHyp_frm (E':=Erd0a 1) (key:=46) (m:=1) (by kernel_rfl) rfl rfl (lokrd_7 okslz)
 unfold rdS0a at h
 split at h
 rotate_right
 ·exact h.elim
 rename_i D P Q
 obtain⟨⟨hg,hn⟩,h⟩:=h
 show evFn (Erd0a 0) Tryz.f30 _ [] K
 rw[evFn_rest (by kernel_rfl) (by kernel_rfl),evRest_stage (Erd0a 0) Tryz.f30 0 4,exrdA]
 refine And.intro hg ?_
 unfold rdK at h
 rw[resF_nil] at h
 by_cases he:groE D P [] Q=0
 ·rw[show(groE D P [] Q==0)=true by rw[he];rfl,cond_true] at h
  rw[show(groE D P [] Q != 0)=false by rw[he];rfl,cond_false]
  show evRest (Erd0a 0) Tryz.f30 (0+4) _ K
  rw[evRest_stage (Erd0a 0) Tryz.f30 (0+4) 3]
  refine rdB0a_ok hg (gro0 he) hn rfl ?_
  rw[decide_eq_false (by simp),cond_false] at h
  exact h
 ·rw[show(groE D P [] Q==0)=false by simpa using he,cond_false] at h
  rw[show(groE D P [] Q != 0)=true by simpa using he,cond_true]
  exact h
theorem rdC0b_ok{D P:List (List Int)}{Q:List Int}{a0 a2 a3 a4 a6 a24 a25 a26 a27 a28 a29 a30 a31 a32 a33 a34 a35 a36 a37 a38 a39 a40 a41 a42 a43 a44:AV}{K:AV→List Blk→Prop}{B:St→Prop}(hg:okG D P [] Q)(g:Gro D P [] Q)(hB:B=fun s=>evRest (Erd0b 0) Tryz.f30 12 s K)
  (h:bif (keptJ Q 0 P.length).all (parOk D P) then K (.tup [.one (.own 0 8),.one (.int .i64 0)]) [.row 22 (.mat .i64 8 D)] else K (.tup [.one .nil,.one (.int .i64 13)]) []) (he:(keptJ Q 0 P.length).isEmpty=true):
  evStage (Erd0b 0) Tryz.f30 7 5 { t:=([a0,AV.one (SV.ptr 0 1 0 0),a2,a3,a4,AV.one SV.nil,a6,AV.any,AV.any,AV.any,AV.any,AV.any,AV.any,AV.any,AV.any,AV.any,AV.any,AV.any,AV.any,AV.any,AV.any,AV.any,AV.any,AV.any,a24,a25,a26,a27,a28,a29,a30,a31,a32,a33,a34,a35,a36,a37,a38,a39,a40,a41,a42,a43,a44]++List.replicate 119 .any),σ:=[.cells [.data (.mat .i64 8 D),.data (.mat .i64 8 P),.data (.ints .i64 []),.data (.ints .i64 Q)]] } K B:=by
 rw[exrdC0b]
 rw[List.isEmpty_iff.1 he] at h
 have hp1:=g.p1
 have hd0:=g.d0
 have hd1:=g.d1
 have hok:=all_rows (O:=D) (L:=[]) ⟨rfl,fun _ _=>rfl⟩ g.kb rfl
 refine And.intro ⟨by omega,by omega⟩ ?_
 subst hB
 have h2:K (.tup [.one (.own 0 8),.one (.int .i64 0)]) [.row 22 (.mat .i64 8 D)]:=h
 clear h
 exact rdD0b_ok hd1 hg.2.2.2.2.1 h2
theorem rdB0b_ok{D P:List (List Int)}{Q:List Int}{a0 a2 a3 a4 a24 a25 a26 a27 a28:AV}{K:AV→List Blk→Prop}{B:St→Prop}(hg:okG D P [] Q)(g:Gro D P [] Q)(he:(keptJ Q 0 P.length).isEmpty=true)(hB:B=fun s=>evRest (Erd0b 0) Tryz.f30 7 s K)
  (h:bif (keptJ Q 0 P.length).all (parOk D P) then K (.tup [.one (.own 0 8),.one (.int .i64 0)]) [.row 22 (.mat .i64 8 D)] else K (.tup [.one .nil,.one (.int .i64 13)]) []):
  evStage (Erd0b 0) Tryz.f30 4 3 { t:=([a0,AV.one (SV.ptr 0 1 0 0),a2,a3,a4,AV.any,AV.any,AV.any,AV.any,AV.any,AV.any,AV.any,AV.any,AV.any,AV.any,AV.any,AV.any,AV.any,AV.any,AV.any,AV.any,AV.any,AV.any,AV.any,a24,a25,a26,a27,a28]++List.replicate 135 .any),σ:=[.cells [.data (.mat .i64 8 D),.data (.mat .i64 8 P),.data (.ints .i64 []),.data (.ints .i64 Q)]] } K B:=by
 rw[exrdB]
 have ez:((P.length:Int)-0).toNat=P.length:=by omega
 rw[ez]
 refine And.intro ⟨hg,rfl,by decide,by omega⟩ ?_
 rw[he,cond_true]
 subst hB
 show evRest (Erd0b 0) Tryz.f30 7 _ K
 rw[evRest_stage (Erd0b 0) Tryz.f30 7 5]
 exact rdC0b_ok hg g rfl h he
theorem okrd0b:SpecOK Tryz.prog 30 rdS0b:=by
 refine specOKc (n:=164) (m:=0) (lps:=lrd (.unroll 9) (.unroll 1) (.unroll 1) (.unroll 1)) [] [139] (allrd okslz) Tryz.func30 (by kernel_rfl) (by kernel_rfl) (theLoops (n:=8) (by kernel_rfl) fun i hi=> ?_) fun args σ K h=> ?_
 ·match i,hi with
  |0,_=>exact loopHyp_frm (E':=Erd0b 1) (key:=6) (m:=1) (by kernel_rfl) rfl rfl (lokrd_0 okslz)
  |1,_=>exact loopHyp_none (key:=15) (n:=9) (by kernel_rfl) rfl
  |2,_=>exact loopHyp_none (key:=19) (n:=1) (by kernel_rfl) rfl
  |3,_=>exact loopHyp_frm (E':=Erd0b 0) (key:=23) (m:=0) (by kernel_rfl) rfl rfl (lokrd_3 okslz)
  |4,_=>exact loopHyp_none (key:=31) (n:=1) (by kernel_rfl) rfl
  |5,_=>exact loopHyp_frm (E':=Erd0b 1) (key:=37) (m:=1) (by kernel_rfl) rfl rfl (lokrd_5 okslz)
  |6,_=>exact loopHyp_none (key:=43) (n:=1) (by kernel_rfl) rfl
  |7,_=>exact loopHyp_frm (E':=Erd0b 1) (key:=46) (m:=1) (by kernel_rfl) rfl rfl (lokrd_7 okslz)
 unfold rdS0b at h
 split at h
 rotate_right
 ·exact h.elim
 rename_i D P Q
 obtain⟨⟨hg,hn⟩,h⟩:=h
 show evFn (Erd0b 0) Tryz.f30 _ [] K
 rw[evFn_rest (by kernel_rfl) (by kernel_rfl),evRest_stage (Erd0b 0) Tryz.f30 0 4,exrdA]
 refine And.intro hg ?_
 unfold rdK at h
 rw[resF_nil] at h
 by_cases he:groE D P [] Q=0
 ·rw[show(groE D P [] Q==0)=true by rw[he];rfl,cond_true] at h
  rw[show(groE D P [] Q != 0)=false by rw[he];rfl,cond_false]
  show evRest (Erd0b 0) Tryz.f30 (0+4) _ K
  rw[evRest_stage (Erd0b 0) Tryz.f30 (0+4) 3]
  refine rdB0b_ok hg (gro0 he) hn rfl ?_
  rw[decide_eq_false (by simp),cond_false] at h
  exact h
 ·rw[show(groE D P [] Q==0)=false by simpa using he,cond_false] at h
  rw[show(groE D P [] Q != 0)=true by simpa using he,cond_true]
  exact h
def rdS:Spec:=fun args σ K=>match args,σ with
 |[.agg [.data (.mat .i64 8 D),.data (.mat .i64 8 P),.data (.ints .i64 L),.data (.ints .i64 Q)]],[]=>okG D P L Q∧rdK D P L Q K
 |_,_=>False
def rdS12:Spec:=fun args σ K=>rdS1 args σ K∨rdS2 args σ K
def rdS34:Spec:=fun args σ K=>rdS3 args σ K∨rdS4 args σ K
def rdS00:Spec:=fun args σ K=>rdS0a args σ K∨rdS0b args σ K
def rdS14:Spec:=fun args σ K=>rdS12 args σ K∨rdS34 args σ K
theorem okrd:SpecOK Tryz.prog 30 rdS:=by
 have h12:SpecOK Tryz.prog 30 rdS12:=SpecOK.mk2 okrd1 okrd2 fun _ _ _ h=>h
 have h34:SpecOK Tryz.prog 30 rdS34:=SpecOK.mk2 okrd3 okrd4 fun _ _ _ h=>h
 have h00:SpecOK Tryz.prog 30 rdS00:=SpecOK.mk2 okrd0a okrd0b fun _ _ _ h=>h
 have h14:SpecOK Tryz.prog 30 rdS14:=SpecOK.mk2 h12 h34 fun _ _ _ h=>h
 refine SpecOK.mk2 h00 h14 fun args σ K h=> ?_
 unfold rdS at h
 split at h
 rotate_right
 ·exact h.elim
 ·rename_i D P L Q
  obtain⟨hg,h⟩:=h
  cases L with
  |nil=>
   refine .inl ?_
   cases he:(keptJ Q 0 P.length).isEmpty with
   |false=>exact .inl ⟨⟨hg,he⟩,h⟩
   |true=>exact .inr ⟨⟨hg,he⟩,h⟩
  |cons i L=>
   refine .inr ?_
   have hc:(i::L).length=1∨(i::L).length=2∨(i::L).length=3∨4≤(i::L).length:=by rw[List.length_cons];omega
   rcases hc with hc|hc|hc|hc
   ·exact .inl (.inl ⟨⟨hg,hc⟩,h⟩)
   ·exact .inl (.inr ⟨⟨hg,hc⟩,h⟩)
   ·exact .inr (.inl ⟨⟨hg,hc⟩,h⟩)
   ·exact .inr (.inr ⟨⟨hg,hc⟩,h⟩)
end Go.Ev
namespace Go.Ev
open Go
def digF(n:Int):List UInt8:=if n=0 then[] else Lib.decDigits n.natAbs
theorem digF_step{n:Int}(h:n≠0)(s:List UInt8):digF n++s=digF (n.tdiv 10)++(UInt8.ofNat (48+n.natAbs%10)::s):=by
 have ha:(n.tdiv 10).natAbs=n.natAbs/10:=by
  rw[Int.natAbs_tdiv];rfl
 have h0:n.natAbs≠0:=by omega
 unfold digF
 rw[if_neg h,Lib.decDigits,ha]
 by_cases hs:n.natAbs<10
 ·have hz:n.tdiv 10=0:=by
   have:(n.tdiv 10).natAbs=0:=by rw[ha];omega
   omega
  rw[dif_pos hs,if_pos hz,Nat.mod_eq_of_lt hs]
  rfl
 ·have hz:n.tdiv 10≠0:=by
   intro e
   rw[e] at ha
   simp at ha
   omega
  rw[dif_neg hs,if_neg hz,List.append_assoc]
  rfl
theorem itoa_digF(n:Int):Lib.itoa n=if n=0 then[48] else(if n<0 then[45] else[])++digF n:=by
 unfold Lib.itoa digF
 by_cases h0:n=0
 ·subst h0
  rw[if_neg (by decide),if_pos rfl,Lib.decDigits]
  rfl
 ·rw[if_neg h0,if_neg h0]
  by_cases hn:n<0
  ·rw[if_pos hn,if_pos hn];rfl
  ·rw[if_neg hn,if_neg hn,show n.toNat=n.natAbs by omega];rfl
def itoG(n:Int):List UInt8:=Lib.itoa n
end Go.Ev
namespace Go.Ev
open Go
def hasB(c:UInt8):List UInt8→Bool
 |[]=>false
 |x::s=>if x=c then true else hasB c s
def bef(c:UInt8):List UInt8→List UInt8
 |[]=>[]
 |x::s=>if x=c then[] else x::bef c s
def aft(c:UInt8):List UInt8→List UInt8
 |[]=>[]
 |x::s=>if x=c then s else aft c s
theorem bef_no{c:UInt8}{s:List UInt8}(h:hasB c s=false):bef c s=s:=by
 induction s with
 |nil=>rfl
 |cons x s ih=>
  unfold hasB at h;unfold bef
  by_cases k:x=c
  ·rw[if_pos k] at h;cases h
  ·rw[if_neg k] at h;rw[if_neg k,ih h]
theorem aft_no{c:UInt8}{s:List UInt8}(h:hasB c s=false):aft c s=[]:=by
 induction s with
 |nil=>rfl
 |cons x s ih=>
  unfold hasB at h;unfold aft
  by_cases k:x=c
  ·rw[if_pos k] at h;cases h
  ·rw[if_neg k] at h;rw[if_neg k,ih h]
theorem bef_aft{c:UInt8}{s:List UInt8}(h:hasB c s=true):s=bef c s++c::aft c s:=by
 induction s with
 |nil=>cases h
 |cons x s ih=>
  unfold hasB at h;unfold bef aft
  by_cases k:x=c
  ·rw[if_pos k,if_pos k,k];rfl
  ·rw[if_neg k] at h;rw[if_neg k,if_neg k,List.cons_append,← ih h]
theorem take_bef(c:UInt8)(s:List UInt8):s.take (bef c s).length=bef c s:=by
 induction s with
 |nil=>rfl
 |cons x s ih=>
  unfold bef
  by_cases k:x=c
  ·rw[if_pos k];rfl
  ·rw[if_neg k,List.length_cons,List.take_succ_cons,ih]
theorem drop_bef{c:UInt8}{s:List UInt8}(h:hasB c s=true):s.drop ((bef c s).length+1)=aft c s:=by
 induction s with
 |nil=>cases h
 |cons x s ih=>
  unfold hasB at h;unfold bef aft
  by_cases k:x=c
  ·rw[if_pos k,if_pos k];rfl
  ·rw[if_neg k] at h;rw[if_neg k,if_neg k]
   exact ih h
theorem aft_len{c:UInt8}{s:List UInt8}(h:hasB c s=true):(bef c s).length+(aft c s).length+1=s.length:=by
 have:=congrArg List.length (bef_aft h)
 simp at this;omega
def pcs(c:UInt8):List UInt8→List (List UInt8)
 |[]=>[[]]
 |x::s=>if x=c then[]::pcs c s else match pcs c s with|p::l=>(x::p)::l|[]=>[[x]]
theorem pcs_has{c:UInt8}{s:List UInt8}(h:hasB c s=true):pcs c s=bef c s::pcs c (aft c s):=by
 induction s with
 |nil=>cases h
 |cons x s ih=>
  unfold hasB at h;rw[pcs,bef,aft]
  by_cases k:x=c
  ·rw[if_pos k,if_pos k,if_pos k]
  ·rw[if_neg k] at h;rw[if_neg k,if_neg k,if_neg k,ih h]
theorem pcs_no{c:UInt8}{s:List UInt8}(h:hasB c s=false):pcs c s=[s]:=by
 induction s with
 |nil=>rfl
 |cons x s ih=>
  unfold hasB at h;unfold pcs
  by_cases k:x=c
  ·rw[if_pos k] at h;cases h
  ·rw[if_neg k] at h;rw[if_neg k,ih h]
def dgB(b:UInt8):Bool:=decide (48≤b.toNat)&&decide (b.toNat≤57)
def digB:List UInt8→Bool
 |[]=>true
 |b::l=>dgB b&&digB l
def digN:List UInt8→Int→Int
 |[],n=>n
 |b::l,n=>digN l (10*n+((b.toNat:Int)-48))
def numAt(s:List UInt8):Nat:=if s.head? = some 45 then 1 else 0
def numB(s:List UInt8)(d:Int):Bool:= !(decide (s.length=numAt s)||(decide (d<(s.length:Int)-numAt s)||(s.getD (numAt s) 0==48&&decide (1<s.length))))&&digB (s.drop (numAt s))
def numW(s:List UInt8):Int:=bif numAt s==1 then -(digN (s.drop (numAt s)) 0) else digN (s.drop (numAt s)) 0
def numV(s:List UInt8)(d:Int):Int:=bif numB s d then numW s else 0
end Go.Ev
