/- Texts of the law FnEqualMeans, part 5: what it uses. -/
import Derived.Test.YthmbefiklpoghaaGreatEqm4
set_option linter.unusedVariables false
set_option linter.unusedSimpArgs false
set_option maxHeartbeats 4000000
set_option maxRecDepth 100000
namespace Go.Proofs.YthmbefiklpoghaaGreat
open Go.RowKit Go.ChangeShapes
open Go.RowKit
theorem wru {n:Int}(h:0≤n∧n≤4):IntKind.u64.wrap (1*2 ^ n.toNat)=(pn_o n:Int):=by
  rcases Ed h with rfl|rfl|rfl|rfl|rfl<;>exact IntWalk.u64_in _ (by decide)
theorem wr2 {n:Int}(h:0≤n∧n≤4):IntKind.i64.wrap (1*2 ^ ((pn_o n:Int)).toNat)=qn n:=by
  rcases Ed h with rfl|rfl|rfl|rfl|rfl<;>exact IntWalk.i64_in _ (by decide)
def TabOk (t:Tab):Prop:=(0≤t.N∧t.N≤4)∧0≤t.B∧t.B≤qn t.N-1
theorem zE {x:Int}(k:Nat) (h:0≤x∧x≤65535):bits .and .i64 (x / 2 ^ k) 1=x / 2 ^ k % 2:=by
  have h1:(0:Int)≤x / 2 ^ k:=Int.ediv_nonneg h.1 (Int.le_of_lt (Int.pow_pos (by decide)))
  have h2:x / 2 ^ k≤x:=Int.ediv_le_self _ h.1
  exact Bit.and_one _ h1 (by omega)
open Go.RowKit
theorem pE (n:Int) (w:World) (hn:0≤n∧n≤4) :
   Calls Tryz.prog 105 #[.int .i64 n] w (Ans w (.int .i64 (qn n-1))):=by
 have hp:=lL hn
 have hq:=oL hn
 refine bN (N:=7) (args:=[jI n]) Tryz.func105 A A (aC (bJ (aM 1 A (dB (bF (aC (bJ (aM 1 A (aP A (fY (k:=.u64) (kk:=.i64) (r:=(pn_o n:Int)) A A A A (by omega) (wru hn)) (aP A (fY (k:=.i64) (kk:=.u64) (r:=qn n) A A A A (by omega) (wr2 hn)) (aP A (iM A A A) (aM 1 A ?_))))))))))))
 refine bR ?_
 exact aV (cA A A A)
theorem iU (t:Tab) (w:World) (ht:TabOk t) :
   Calls Tryz.prog 103 #[.agg #[.int .i64 t.N,.int .i64 t.B]] w (Ans w (.bool true)):=by
 obtain⟨hn,hB0,hB1⟩:=ht
 have hp:=lL hn
 have hq:=oL hn
 refine bN (N:=19) (args:=[.agg #[jI t.N,jI t.B]]) Tryz.func103 A A (cF ?_)
 refine cR A (cN A A) ?_
 intro b1
 refine aU 1 A (aC ?_)
 have hb2:(decide (0≤t.B))=true:=decide_eq_true (by omega)
 have hb3:(decide (t.B≤qn t.N-1))=true:=decide_eq_true (by omega)
 refine cJ 16 [[],[0],[1],[2],[3],[3,4],[3,5],[3,6],[7],[8],[8,9],[8],[8,11],[8,12],[8,10,13],[8,14]] [3,4,5,6,7,8,9,10,11,12,13,14,15,16,17,18] [.pointer (some ⟨b1,0+0,none⟩),jI t.N,.bool true,.bool true,.pointer (some ⟨b1,0+1,none⟩),jI t.B,.bool true,.bool true,.bool true,.pointer (some ⟨b1,0+1,none⟩),jI t.B,.pointer (some ⟨b1,0+0,none⟩),jI t.N,jI (qn t.N-1),.bool true,.bool true] (by kernel_rfl) A ?_ ?_
 exact⟨bK A (cQ 0 A A A) A,bK A (aN A A A (aH 0 A A)) A,.inl ⟨A,aJ A A (fun w hm=>aY (Bm (by omega) (by omega) w))⟩,bK A (aK A) A,bK A (cQ 1 A A A) A,bK A (aN A A A (aH 0 A A)) A,.inl ⟨A,eQ (dC A A A A) hb2⟩,bK A (aK A) A,bK A (aK A) A,bK A (cQ 1 A A A) A,bK A (aN A A A (aH 0 A A)) A,bK A (cQ 0 A A A) A,bK A (aN A A A (aH 0 A A)) A,.inl ⟨A,aJ A A (fun w hm=>aY (pE _ w hn))⟩,.inl ⟨A,eQ (dC A A A A) hb3⟩,bK A (aK A) A,trivial⟩
 simp only[List.drop_succ_cons,List.drop_zero]
 refine aU 1 A ?_
 exact aV (cA A A A)
open Go.RowKit
open Go.RowKit
theorem vA (n x:Int) (w:World) (hn:0≤n∧n≤4) (ha:0≤x∧x≤qn n-1) :
   Calls Tryz.prog 94 #[.agg #[.int .i64 n,.int .i64 x]] w (Ret w (fun v' post=>post=[]∧∃t:Tab,TabOk t∧t.N=n∧v'=.agg #[.int .i64 t.N,.int .i64 t.B])):=by
 have hq:=oL hn
 refine bN (N:=16) (args:=[.agg #[jI n,jI x]]) Tryz.func94 A A (cF ?_)
 refine cR A (cN A A) ?_
 intro b1
 refine cR A (bP (z:=.agg #[jI 0,jI 0]) A A) ?_
 intro b2
 refine bR (eP (aP A (aF (cs:=[jI n,jI x]) A A A A A (aD 1 A 0 A)) ?_))
 refine dA A (aJ A A (fun w hm=>aY (iU ⟨n,x⟩ w ⟨(by show 0≤n∧n≤4;omega),(by show 0≤x∧x≤qn (n)-1;omega)⟩))) (aU 1 A (aS A (bY (aC ?_))))
 refine cJ 9 [[],[0],[],[2],[3],[],[5],[4,6],[1,7]] [7,8,9,10,11,12,13,14,15] [.pointer (some ⟨b1,0+0,none⟩),jI n,.pointer (some ⟨b1,0+0,none⟩),jI n,jI (qn n-1),.pointer (some ⟨b1,0+1,none⟩),jI x,jI ((qn n-1)-x),.agg #[jI n,jI ((qn n-1)-x)]] (by kernel_rfl) A ?_ ?_
 exact⟨bK A (cQ 0 A A A) A,bK A (aN A A A (aH 1 A A)) A,bK A (cQ 0 A A A) A,bK A (aN A A A (aH 1 A A)) A,.inl ⟨A,aJ A A (fun w hm=>aY (pE _ w (by omega)))⟩,bK A (cQ 1 A A A) A,bK A (aN A A A (aH 1 A A)) A,bK A (iM A A A) A,bK A (dQ (cs:=#[jI n,jI ((qn n-1)-x)]) A A A) A,trivial⟩
 simp only[List.drop_succ_cons,List.drop_zero]
 refine bI (cs':=#[jI n,jI ((qn n-1)-x)]) (i:=0) (off:=0) (us:=[jI n,jI ((qn n-1)-x)]) A A A A A A A (aA A (aA A bA)) A A A (bR ?_)
 exact aV (bV (rs:=[.cell 2 111]) (vs:=[.agg #[jI n,jI ((qn n-1)-x)]]) (post:=[]) A ⟨⟨b2,0,[jI n,jI ((qn n-1)-x)],A,A,by kernel_rfl,by kernel_rfl,aD 0 A 0 A⟩,trivial⟩ A (eJ [] A) ⟨A,⟨n,(qn n-1)-x⟩,⟨hn,by constructor<;>dsimp only<;>omega⟩,A,A⟩)
def opn (n : Nt) (cut : List Int) : Nat → List Bl → Bool
  | 0,_=>true
  | k + 1, bs => if (bs.getD (k + 1) bl0).b = false ∨ hasB cut ((k + 1 : Nat) : Int) = true then opn n cut k bs
    else if ((k+1:Nat):Int)<n.fst then false
    else opn n cut k ((bs.set ((n.gs.getD (((k+1:Nat):Int)-n.fst).toNat an0).a / 2).toNat ⟨true⟩).set ((n.gs.getD (((k+1:Nat):Int)-n.fst).toNat an0).b / 2).toNat ⟨true⟩)
theorem vU {n:Nt}{cut:List Int}{k:Nat}{bs:List Bl}(hk:0<k) (h:(bs.getD k bl0).b=false∨hasB cut (k:Int)=true):opn n cut k bs=opn n cut (k-1) bs:=by
  obtain⟨j,rfl⟩:∃j,k=j+1:=⟨k-1,by omega⟩
  rw[opn,if_pos h];rfl
theorem opn_no {n:Nt}{cut:List Int}{k:Nat}{bs:List Bl}(hk:0<k) (h1:(bs.getD k bl0).b=true) (h2:hasB cut (k:Int)=false) (h3:(k:Int)<n.fst):opn n cut k bs=false:=by
  obtain⟨j,rfl⟩:∃j,k=j+1:=⟨k-1,by omega⟩
  rw[opn,if_neg (by rw[h1,h2];decide),if_pos h3]
theorem Dg {n:Nt}{cut:List Int}{k:Nat}{bs:List Bl}(hk:0<k) (h1:(bs.getD k bl0).b=true) (h2:hasB cut (k:Int)=false) (h3:n.fst≤(k:Int)) :
    opn n cut k bs=opn n cut (k-1) ((bs.set ((n.gs.getD ((k:Int)-n.fst).toNat an0).a / 2).toNat ⟨true⟩).set ((n.gs.getD ((k:Int)-n.fst).toNat an0).b / 2).toNat ⟨true⟩):=by
  obtain⟨j,rfl⟩:∃j,k=j+1:=⟨k-1,by omega⟩
  rw[opn,if_neg (by rw[h1,h2];decide),if_neg (by omega)];rfl
abbrev opn0 (n:Nt) (node:Int):List Bl:=(List.replicate n.cnt.toNat bl0).set node.toNat ⟨true⟩
def ElP (n:Nt) (node:Int) (cut:List Int) (i:Nat):Prop:=hasB (coneS n node) (cut.getD i 0)=true∧(0<i→cut.getD (i-1) 0<cut.getD i 0)
structure CutP (n:Nt) (node:Int) (cut:List Int):Prop where
  len:cut.length≤4
  el:∀i,i<cut.length→ElP n node cut i
  op:opn n cut node.toNat (opn0 n node)=true
theorem Ef {n:Nt}{node:Int}{cut:List Int}{i:Nat}(h:hasB (coneS n node) (cut.getD i 0)=false∨(0<i∧cut.getD i 0≤cut.getD ((i:Int)-1).toNat 0)):¬ElP n node cut i:=fun he=>by
  rcases h with h|⟨h0,h⟩
  · rw[he.1] at h;cases h
  · have := he.2 h0
    rw[show((i:Int)-1).toNat=i-1 by omega] at h
    omega
theorem Ai {n:Nt}{node:Int}{cut:List Int}{i:Nat}(h:hasB (coneS n node) (cut.getD i 0)=true) (h1:(i:Int)≤0∨cut.getD ((i:Int)-1).toNat 0<cut.getD i 0):ElP n node cut i:=⟨h,fun h0=>by
  rcases h1 with h1|h1
  · omega
  · rwa [show((i:Int)-1).toNat=i-1 by omega] at h1⟩
theorem CutP.rng {n:Nt}(hn:NtOk n) {node:Int}(h0:0≤node) {cut:List Int}(h:CutP n node cut) {i:Nat}(hi:i<cut.length):0≤cut.getD i 0∧cut.getD i 0≤node:=Cb hn h0 _ (oT.1 (h.el i hi).1)
structure MapP (n:Nt) (rs:List CRow):Prop where
  len:rs.length=n.gs.length
  cut:∀i,i<rs.length→CutP n (n.fst+(i:Int)) (rs.getD i crow0).xs∧hasB (rs.getD i crow0).xs (n.fst+(i:Int))=false
theorem Aq {v:List Int}(h:B01 v) {k:Nat}{x:Int}(hx:x=0∨x=1):B01 (v.set k x):=fun j hj=>by
  rw[List.length_set] at hj
  by_cases e:k=j
  · subst e;rw[eR hj];exact hx
  · rw[List.getD_eq_getElem?_getD,List.getElem?_set_ne e,←List.getD_eq_getElem?_getD];exact h j hj
theorem Gj (n:Nat):B01 (List.replicate n 0):=fun k hk=>by rw[List.length_replicate] at hk;rw[Br hk];exact .inl rfl
theorem sM {k:Nat}(h:k≤16):(0:Int)<2 ^ k∧(2:Int) ^ k≤65536:=by
  have h1:(2:Nat) ^ k≤2 ^ 16:=Nat.pow_le_pow_right (by decide) h
  have h2:((2 ^ k:Nat):Int)=(2:Int) ^ k:=by push_cast;rfl
  have h3:0<(2:Nat) ^ k:=Nat.pow_pos (by decide)
  have h4:(2:Nat) ^ 16=65536:=by decide
  rw[←h2];omega
theorem lI {b:Int}{k:Nat}(hb:b=0∨b=1) (hk:k≤16):IntKind.i64.wrap (b*2 ^ ((k:Int)).toNat)=b*2 ^ k:=by
  have hp:=sM hk
  rw[Int.toNat_natCast]
  exact IntWalk.i64_in _ (by rcases hb with e|e<;>rw[e]<;>omega)
theorem mG {b x:Int}{i:Nat}(hb:0≤b∧b<2 ^ i) (hx:x=0∨x=1):0≤b+x*2 ^ i∧b+x*2 ^ i<2 ^ (i+1):=by
  have hp:(0:Int)<2 ^ i:=Int.pow_pos (by decide)
  rw[Int.pow_succ]
  rcases hx with e|e<;>rw[e]<;>omega
theorem En {m b:Int}(hm:0≤m∧m≤4) {i:Nat}(hi:i=pn_o m) (hb:0≤b∧b<2 ^ i):TabOk (Tab.mk m b):=by
  subst hi
  refine⟨hm,hb.1,?_⟩
  show b≤2 ^ (2 ^ m.toNat)-1
  have:=hb.2
  unfold pn_o at this
  omega
theorem rN (n:Nt) (node:Int) (cut:List Int) (cv:Value) (w:World) (hr:RdsNt w n) (hn:NtOk n) (hcr:RdsW w cv 1 cut.length (cut.map (Value.int .i64))) (hnd:0≤node∧node<n.cnt) (hcl9:cut.length≤100000) :
   Calls Tryz.prog 90 #[.agg #[.int .i64 n.ins,n.sv,n.av,n.ov],.int .i64 node,cv] w (Ans w (.bool (pBe (CutP n node cut)))):=by
 have hi0:=hn.i0
 have hi1:=hn.i1
 have hs1:=hn.s1
 have ha1:=hn.a1
 have ho1:=hn.o1
 have hcnt:n.cnt=1+n.ins+n.ss.length+n.gs.length:=rfl
 have hfst:n.fst=1+n.ins+n.ss.length:=rfl
 refine bN (N:=105) (args:=[.agg #[jI n.ins,n.sv,n.av,n.ov],jI node,cv]) Tryz.func90 A A (cF ?_)
 refine cR A (cN A A) ?_
 intro b1
 refine aU 1 A (eP (aP A (aF (cs:=[jI n.ins,n.sv,n.av,n.ov]) A A A A A (aD 0 A 0 A)) ?_))
 refine dA A (aJ A A (fun w hm=>aY (eA n w (hr.below hm.bel) hn))) (aM 3 A ?_)
 refine bQ A A A A A A (fun h2=>absurd h2 (by omega)) (fun h2=>?_)
 refine aM 3 A (aP A (aF (cs:=[jI n.ins,n.sv,n.av,n.ov]) A A A A A (aD 0 A 0 A)) ?_)
 refine dA A (aJ A A (fun w hm=>aY (cS n w (hr.below hm.bel) hn))) (gO A A A A A A (fun h3=>absurd h3 (by omega)) (fun h3=>?_))
 refine aM 3 A (aP A (bC A Tryz.underlying26 A (aE hcr)) ?_)
 refine fJ A A A A A A (fun h4=>?_) (fun h4=>?_)
 refine aU 1 A (aR A (bD 1 A ?_))
 refine aV (aL ?_)
 exact cA A A (congrArg Value.bool (kT (p:=CutP n node cut) (fun h=>by have h9:=h.len;omega)).symm)
 refine aU 1 A (aS A (bY (cF (aP A (aF (cs:=[jI n.ins,n.sv,n.av,n.ov]) A A A A A (aD 0 A 0 A)) (aM 1 A ?_)))))
 refine eB A A A (aJ A A (fun w hm=>Eu n node w (hr.below hm.bel) hn hnd)) ?_
 intro v5 p6 R7
 subst R7
 have hcl:=Cc n node (by omega)
 refine aU 1 A (aC (bD 1 A (bE ?_)))
 refine wO (α:=Nat) (fun j=>[rowE 3 1 v5 ((coneS n node).length) (mI (coneS n node)),nB9 b1 n]) (fun j=>[(0,.agg #[jI n.ins,n.sv,n.av,n.ov]),(1,jI node),(2,cv),(3,pI b1),(6,.bool false),(7,v5),(8,jI (j:Int)),(29,.bool false)]) (fun j=>j≤cut.length∧∀i,i<j→ElP n node cut i) (fun j=>cut.length-j) 0 ⟨Nat.zero_le _,fun i hi=>absurd hi (by omega)⟩ (cT A) (dS A) ?_
 intro j hi8
 obtain⟨hj,hel⟩:=hi8
 refine aC (aC (bZ 2 A (aP A (bC A Tryz.underlying26 A (aE hcr)) ?_)))
 refine bQ A A A A A A (fun h9=>?_) (fun h9=>?_)
 refine bR (aR A (bY (fM (aC ?_))))
 rcases Bool.eq_false_or_eq_true (hasB (coneS n node) (cut.getD j 0)) with hb10|hb10
 rcases Bool.eq_false_or_eq_true (decide (0<(j:Int))) with hb11|hb11
 have hb11p:0<(j:Int):=of_decide_eq_true hb11
 refine cJ 23 [[],[],[],[1,2],[3],[0,4],[5],[6],[7],[7,8],[7,9],[10],[10],[10,11,12],[10,13],[10],[10],[10,16],[10,15,17],[10,18],[10,14,19],[7,10,20],[7,21]] [39,40,41,42,43,44,45,46,47,48,49,50,51,52,53,54,55,56,57,58,59,60,61] [v5,cv,jI (j:Int),elP cv ((j:Int).toNat*1),jI (cut.getD j 0),.bool true,.bool false,.bool false,jI (j:Int),.bool true,.bool true,cv,jI (j:Int),elP cv ((j:Int).toNat*1),jI (cut.getD j 0),cv,jI (j:Int),jI ((j:Int)-1),elP cv (((j:Int)-1).toNat*1),jI (cut.getD (((j:Int)-1).toNat) 0),.bool (decide (cut.getD j 0≤cut.getD (((j:Int)-1).toNat) 0)),.bool (decide (cut.getD j 0≤cut.getD (((j:Int)-1).toNat) 0)),.bool (decide (cut.getD j 0≤cut.getD (((j:Int)-1).toNat) 0))] (by kernel_rfl) A ?_ ?_
 exact⟨bK A (aK A) A,bK A (aK A) A,bK A (aK A) A,bK A (dF 1 A A A A (aE hcr)) A,bK A (hC A A A (aE hcr)) A,.inl ⟨A,iH (aJ A A (fun w hm=>aY (iE (coneS n node) (cut.getD j 0) _ w ((aG 0 A) w hm) (by omega)))) hb10⟩,bK A (aK A) A,bK A (aK A) A,bK A (aK A) A,.inl ⟨A,eQ (dC A A A A) hb11⟩,bK A (aK A) A,bK A (aK A) A,bK A (aK A) A,bK A (dF 1 A A A A (aE hcr)) A,bK A (hC A A A (aE hcr)) A,bK A (aK A) A,bK A (aK A) A,bK A (iM A A A) A,bK A (dF 1 A A A A (aE hcr)) A,bK A (rR A A A (aE hcr)) A,bK A (dC A A A A) A,bK A (aK A) A,bK A (aK A) A,trivial⟩
 simp only[List.drop_succ_cons,List.drop_zero]
 refine bR ?_
 refine fU A (fun h12=>?_) (fun h12=>?_)
 have h12p:cut.getD j 0≤cut.getD (((j:Int)-1).toNat) 0:=of_decide_eq_true h12
 refine bD 1 A ?_
 refine aV (aQ ?_)
 refine fL ?_
 refine aQ (aL ?_)
 exact cA A A (congrArg Value.bool (kT (p:=CutP n node cut) (fun h=>Ef (by first|exact .inl (by assumption)|exact .inr ⟨by omega,by omega⟩) (h.el j (by omega)))).symm)
 have h12p:¬(cut.getD j 0≤cut.getD (((j:Int)-1).toNat) 0):=of_decide_eq_false h12
 refine fP (cK (bZ 1 A (aP A (dM A A A) (dJ 1 A ?_))))
 exact cU (j+1) ⟨by omega,fun i hi=>by by_cases e:i=j;(subst e;exact Ai (by assumption) (by first|exact .inl (by omega)|exact .inr (by omega)));exact hel i (by omega)⟩ (by omega) (cT A) (dS A)
 have hb11p:¬(0<(j:Int)):=of_decide_eq_false hb11
 refine cJ 23 [[],[],[],[1,2],[3],[0,4],[5],[6],[7],[7,8],[7,9],[10],[10],[10],[10],[10],[10],[10],[10],[10],[10],[7,10,20],[7,21]] [39,40,41,42,43,44,45,46,47,48,49,50,51,52,53,54,55,56,57,58,59,60,61] [v5,cv,jI (j:Int),elP cv ((j:Int).toNat*1),jI (cut.getD j 0),.bool true,.bool false,.bool false,jI (j:Int),.bool false,.bool false,undef,undef,undef,undef,undef,undef,undef,undef,undef,undef,.bool false,.bool false] (by kernel_rfl) A ?_ ?_
 exact⟨bK A (aK A) A,bK A (aK A) A,bK A (aK A) A,bK A (dF 1 A A A A (aE hcr)) A,bK A (hC A A A (aE hcr)) A,.inl ⟨A,iH (aJ A A (fun w hm=>aY (iE (coneS n node) (cut.getD j 0) _ w ((aG 0 A) w hm) (by omega)))) hb10⟩,bK A (aK A) A,bK A (aK A) A,bK A (aK A) A,.inl ⟨A,eQ (dC A A A A) hb11⟩,bK A (aK A) A,.inr ⟨A,A⟩,.inr ⟨A,A⟩,.inr ⟨A,A⟩,.inr ⟨A,A⟩,.inr ⟨A,A⟩,.inr ⟨A,A⟩,.inr ⟨A,A⟩,.inr ⟨A,A⟩,.inr ⟨A,A⟩,.inr ⟨A,A⟩,bK A (aK A) A,bK A (aK A) A,trivial⟩
 simp only[List.drop_succ_cons,List.drop_zero]
 refine bR (hH A (cK (bZ 1 A (aP A (dM A A A) (dJ 1 A ?_)))))
 exact cU (j+1) ⟨by omega,fun i hi=>by by_cases e:i=j;(subst e;exact Ai (by assumption) (by first|exact .inl (by omega)|exact .inr (by omega)));exact hel i (by omega)⟩ (by omega) (cT A) (dS A)
 refine cJ 23 [[],[],[],[1,2],[3],[0,4],[5],[6],[7],[7],[7],[10],[10],[10],[10],[10],[10],[10],[10],[10],[10],[7],[7,21]] [39,40,41,42,43,44,45,46,47,48,49,50,51,52,53,54,55,56,57,58,59,60,61] [v5,cv,jI (j:Int),elP cv ((j:Int).toNat*1),jI (cut.getD j 0),.bool false,.bool true,.bool true,undef,undef,undef,undef,undef,undef,undef,undef,undef,undef,undef,undef,undef,undef,.bool true] (by kernel_rfl) A ?_ ?_
 exact⟨bK A (aK A) A,bK A (aK A) A,bK A (aK A) A,bK A (dF 1 A A A A (aE hcr)) A,bK A (hC A A A (aE hcr)) A,.inl ⟨A,iH (aJ A A (fun w hm=>aY (iE (coneS n node) (cut.getD j 0) _ w ((aG 0 A) w hm) (by omega)))) hb10⟩,bK A (aK A) A,bK A (aK A) A,.inr ⟨A,A⟩,.inr ⟨A,A⟩,.inr ⟨A,A⟩,.inr ⟨A,A⟩,.inr ⟨A,A⟩,.inr ⟨A,A⟩,.inr ⟨A,A⟩,.inr ⟨A,A⟩,.inr ⟨A,A⟩,.inr ⟨A,A⟩,.inr ⟨A,A⟩,.inr ⟨A,A⟩,.inr ⟨A,A⟩,.inr ⟨A,A⟩,bK A (aK A) A,trivial⟩
 simp only[List.drop_succ_cons,List.drop_zero]
 refine bR (aR A (bD 1 A ?_))
 refine aV (aQ ?_)
 refine fL ?_
 refine aQ (aL ?_)
 exact cA A A (congrArg Value.bool (kT (p:=CutP n node cut) (fun h=>Ef (by first|exact .inl (by assumption)|exact .inr ⟨by omega,by omega⟩) (h.el j (by omega)))).symm)
 refine bR (aS A ?_)
 refine bM (dI ?_)
 refine aO (bF (cF (aP A (aF (cs:=[jI n.ins,n.sv,n.av,n.ov]) A A A A A (aD 1 A 0 A)) ?_)))
 refine dA A (aJ A A (fun w hm=>aY (cS n w (hr.below hm.bel) hn))) (dP A (gN (z:=.bool false) (s:=1) (bytes:=1) (n:=(List.replicate n.cnt.toNat bl0).length) (cs:=((List.replicate n.cnt.toNat bl0).flatMap blC)) A Tryz.underlying56 A (by decide) A A (by first|(rw[List.length_replicate];done)|(rw[List.length_replicate];omega)) (by first|(rw[List.length_replicate];done)|(rw[List.length_replicate];omega)) (by rw[List.length_replicate];omega) (jL blC 1 (fun _=>A) bl0 _ A n.cnt.toNat)) ?_)
 intro g13
 refine aU 1 A (aC (bZ 2 A ?_))
 have hrl:(List.replicate n.cnt.toNat bl0).length=n.cnt.toNat:=List.length_replicate
 refine aP A (dF 1 A A A A (aG 0 A)) (eN (i:=0) (n':=((List.replicate n.cnt.toNat bl0).set (node.toNat) { (List.replicate n.cnt.toNat bl0).getD (node.toNat) bl0 with b:=true }).length) A A A A A A A A (by first|omega|(simp only[List.length_set];omega)) List.length_set.symm (fV blC (fun r=>.bool r.b) (fun _=>A) _ ({ (List.replicate n.cnt.toNat bl0).getD (node.toNat) bl0 with b:=true }) A) A ?_)
 refine bR (aC (bD 2 A (bE ?_)))
 refine wN (α:=Nat) (β:=List Bl) (fun k bs=>[rS9 4 1 (.slice (some ⟨g13,0,none⟩) ((List.replicate n.cnt.toNat bl0).length) ((List.replicate n.cnt.toNat bl0).length)) bs blC,rowE 3 1 v5 ((coneS n node).length) (mI (coneS n node)),nB9 b1 n]) (fun k bs=>[(0,.agg #[jI n.ins,n.sv,n.av,n.ov]),(1,jI node),(2,cv),(3,pI b1),(6,.bool false),(7,v5),(9,.slice (some ⟨g13,0,none⟩) ((List.replicate n.cnt.toNat bl0).length) ((List.replicate n.cnt.toNat bl0).length)),(10,jI (k:Int)),(29,.bool false),(36,.bool false)]) (fun k bs=>(k:Int)≤node∧opn n cut node.toNat (opn0 n node)=opn n cut k bs∧bs.length=n.cnt.toNat) (fun k bs=>k) node.toNat _ ⟨by omega,rfl,by rw[List.length_set,List.length_replicate]⟩ (bO [9,7,6,3,2,1,0] _ (sk 10 (congrArg (fun x=>some (Value.int .i64 x)) (by omega)) (aI [36,29] rfl)) rfl) (dS rfl) ?_
 intro k bs hi14
 obtain⟨hk,hop,hbl⟩:=hi14
 refine aC (aC (bZ 1 A ?_))
 refine fJ A A A A A A (fun h15=>?_) (fun h15=>?_)
 refine bR (aR A (bY (fM (aC (aC (bZ 2 A (aP A (dF 1 A A A A (aG 0 A)) ?_)))))))
 refine aP A (bG (u:=.bool ((bs.getD k bl0).b)) A A A (aG 0 A) (dG blC (fun r=>.bool r.b) (fun _=>A) bs bl0 (show k<_ by omega))) (bW (fun h16=>?_) (fun h16=>?_))
 have hmk:=h16
 refine aM 4 A (dA A (aJ A A (fun w hm=>aY (iE cut (k:Int) _ w ((aE hcr) w hm) (by omega)))) ?_)
 refine bW (fun h17=>?_) (fun h17=>?_)
 refine aU 1 A (aR A ?_)
 refine bM (gF ?_)
 refine aO (bF (bZ 1 A (aP A (iM A A A) (dJ 1 A ?_))))
 exact cG (k-1) bs ⟨by omega,hop.trans (vU (by omega) (by first|exact .inl hmk|exact .inr (by assumption))),by first|omega|(simp only[List.length_set];omega)⟩ (by omega) (bO [9,7,6,3,2,1,0] _ (sk 10 (congrArg (fun x=>some (Value.int .i64 x)) (by omega)) (aI [36,29] A)) A) (dS A)
 refine aU 1 A (aS A (bY (aC (aC (bZ 1 A (aP A (aF (cs:=[jI n.ins,n.sv,n.av,n.ov]) A A A A A (aD 2 A 0 A)) ?_))))))
 refine dA A (aJ A A (fun w hm=>aY (dD n w (hr.below hm.bel) hn))) (bQ A A A A A A (fun h18=>?_) (fun h18=>?_))
 refine bR (aR A (bD 1 A ?_))
 refine aV (aL ?_)
 refine aQ (fL ?_)
 refine aQ (aL ?_)
 exact cA rfl rfl (congrArg Value.bool (kT (p:=CutP n node cut) (fun h=>by have h9:=h.op;rw[hop,opn_no (by omega) hmk (by assumption) (by omega)] at h9;cases h9)).symm)
 refine bR (aS A (bY (aC ?_)))
 have hani:=hn.an ((k:Int)-n.fst).toNat (by omega)
 unfold LtOk at hani
 refine eV A 9 [0,1,2,3,4,5,6,7,8] (List.take 9 _) (List.drop 9 _) [[],[0],[],[],[3],[2,4],[1,5],[6],[]] [87,88,89,90,91,92,93,94,11] (fun i_ vs_ v_ p_=>match i_ with|0=>v_=.pointer (some ⟨b1,0+2,none⟩)∧p_=[]|1=>v_=n.av∧p_=[]|2=>v_=jI (k:Int)∧p_=[]|3=>v_=.agg #[jI n.ins,n.sv,n.av,n.ov]∧p_=[]|4=>v_=jI n.fst∧p_=[]|5=>v_=jI ((k:Int)-n.fst)∧p_=[]|6=>v_=elP n.av (((k:Int)-n.fst).toNat*2)∧p_=[]|7=>v_=.agg #[jI ((n.gs.getD (((k:Int)-n.fst).toNat) an0).a),jI ((n.gs.getD (((k:Int)-n.fst).toNat) an0).b)]∧p_=[]|8=>IsBox #[jI 0,jI 0] 67 v_ p_|_=>True) (List.take_append_drop 9 _).symm (by kernel_rfl) (by kernel_rfl) A A ?_ ?_
 refine⟨?_,?_,?_,?_,?_,?_,?_,?_,?_,trivial⟩
 intro vf pf hR
 exact fX A (aI [3] A) (aT (cQ 2 A A A))
 intro vf pf hR
 have e0:=hR 0 (by decide)
 exact eZ A (sk 87 (congrArg some e0.1) (aB _)) (aT (aN A A A (aH 2 A A)))
 intro vf pf hR
 exact fX A (aI [10] A) (aT (aK A))
 intro vf pf hR
 exact eZ A (aI [3] A) (aT (aF (cs:=[jI n.ins,n.sv,n.av,n.ov]) A A A A A (aD 2 A 0 A)))
 intro vf pf hR
 have e3:=hR 3 (by decide)
 exact eZ A (sk 90 (congrArg some e3.1) (aB _)) (aJ A A (fun w hm=>aY (dD n w (hr.below hm.bel) hn)))
 intro vf pf hR
 have e2:=hR 2 (by decide)
 have e4:=hR 4 (by decide)
 exact fX A (sk 89 (congrArg some e2.1) (sk 91 (congrArg some e4.1) (aB _))) (aT (iM A A A))
 intro vf pf hR
 have e1:=hR 1 (by decide)
 have e5:=hR 5 (by decide)
 exact eZ A (sk 88 (congrArg some e1.1) (sk 92 (congrArg some e5.1) (aB _))) (aT (dF 2 A A A A (aE hr.an)))
 intro vf pf hR
 have e6:=hR 6 (by decide)
 exact eZ A (sk 93 (congrArg some e6.1) (aB _)) (aT (eI (us:=[jI ((n.gs.getD (((k:Int)-n.fst).toNat) an0).a),jI ((n.gs.getD (((k:Int)-n.fst).toNat) an0).b)]) A A A A (aE hr.an) (by omega) A (fC anC 2 (fun _=>A) n.gs an0 (show((k:Int)-n.fst).toNat<_ by omega) A)))
 intro vf pf hR
 exact eZ A (aB _) (bP (z:=.agg #[jI 0,jI 0]) A A)
 intro vf pf hR
 have e7:=hR 7 (by decide)
 have e8:IsBox #[jI 0,jI 0] 67 (vf 8) (pf 8):=hR 8 (by decide)
 obtain⟨b19,vE8,pE8⟩:=e8
 have q0:=hR 0 (by decide)
 have q1:=hR 1 (by decide)
 have q2:=hR 2 (by decide)
 have q3:=hR 3 (by decide)
 have q4:=hR 4 (by decide)
 have q5:=hR 5 (by decide)
 have q6:=hR 6 (by decide)
 have q7:=hR 7 (by decide)
 refine cE (bO [10,9,7,6,3,2,1,0] _ (sk 11 (congrArg some vE8) (bO [86,82,70,36,29] _ (sk 94 (congrArg some e7.1) (aB _)) A)) A) (by simp only[pE8,vE8,q0.2,q1.2,q2.2,q3.2,q4.2,q5.2,q6.2,q7.2,fS]<;>rfl) ?_
 simp only[List.drop_succ_cons,List.drop_zero]
 refine bI (cs':=#[jI ((n.gs.getD (((k:Int)-n.fst).toNat) an0).a),jI ((n.gs.getD (((k:Int)-n.fst).toNat) an0).b)]) (i:=0) (off:=0) (us:=[jI ((n.gs.getD (((k:Int)-n.fst).toNat) an0).a),jI ((n.gs.getD (((k:Int)-n.fst).toNat) an0).b)]) A A A A A A A (aA A (aA A bA)) A A A (bR (aC (bZ 1 A (aP A (cQ 0 A A A) (aP A (aN A A A (aH 0 A A)) ?_)))))
 refine aP A (fF A A A (by refine⟨?_,?_,?_⟩<;>omega)) ?_
 refine aP A (dF 1 A A A A (aG 1 A)) (eN (i:=1) (n':=(bs.set ((((n.gs.getD (((k:Int)-n.fst).toNat) an0).a) / 2).toNat) { bs.getD ((((n.gs.getD (((k:Int)-n.fst).toNat) an0).a) / 2).toNat) bl0 with b:=true }).length) A A A A A A A A (by first|omega|(simp only[List.length_set];omega)) List.length_set.symm (fV blC (fun r=>.bool r.b) (fun _=>A) _ ({ bs.getD ((((n.gs.getD (((k:Int)-n.fst).toNat) an0).a) / 2).toNat) bl0 with b:=true }) A) A ?_)
 refine bR (bZ 1 A (aP A (cQ 1 A A A) (aP A (aN A A A (aH 0 A A)) ?_)))
 refine aP A (fF A A A (by refine⟨?_,?_,?_⟩<;>omega)) ?_
 refine aP A (dF 1 A A A A (aG 1 A) (by omega) (by first|omega|(simp only[List.length_set];omega))) (eN (i:=1) (n':=((bs.set ((((n.gs.getD (((k:Int)-n.fst).toNat) an0).a) / 2).toNat) { bs.getD ((((n.gs.getD (((k:Int)-n.fst).toNat) an0).a) / 2).toNat) bl0 with b:=true }).set ((((n.gs.getD (((k:Int)-n.fst).toNat) an0).b) / 2).toNat) { (bs.set ((((n.gs.getD (((k:Int)-n.fst).toNat) an0).a) / 2).toNat) { bs.getD ((((n.gs.getD (((k:Int)-n.fst).toNat) an0).a) / 2).toNat) bl0 with b:=true }).getD ((((n.gs.getD (((k:Int)-n.fst).toNat) an0).b) / 2).toNat) bl0 with b:=true }).length) A A A A A A A A (by first|omega|(simp only[List.length_set];omega)) List.length_set.symm (fV blC (fun r=>.bool r.b) (fun _=>A) _ ({ (bs.set ((((n.gs.getD (((k:Int)-n.fst).toNat) an0).a) / 2).toNat) { bs.getD ((((n.gs.getD (((k:Int)-n.fst).toNat) an0).a) / 2).toNat) bl0 with b:=true }).getD ((((n.gs.getD (((k:Int)-n.fst).toNat) an0).b) / 2).toNat) bl0 with b:=true }) A) A ?_)
 refine dB (cK (bZ 1 A (aP A (iM A A A) (dJ 1 A ?_))))
 exact cG (k-1) ((bs.set ((((n.gs.getD (((k:Int)-n.fst).toNat) an0).a) / 2).toNat) { bs.getD ((((n.gs.getD (((k:Int)-n.fst).toNat) an0).a) / 2).toNat) bl0 with b:=true }).set ((((n.gs.getD (((k:Int)-n.fst).toNat) an0).b) / 2).toNat) { (bs.set ((((n.gs.getD (((k:Int)-n.fst).toNat) an0).a) / 2).toNat) { bs.getD ((((n.gs.getD (((k:Int)-n.fst).toNat) an0).a) / 2).toNat) bl0 with b:=true }).getD ((((n.gs.getD (((k:Int)-n.fst).toNat) an0).b) / 2).toNat) bl0 with b:=true }) ⟨by omega,hop.trans (Dg (by omega) hmk (by assumption) (by omega)),by first|omega|(simp only[List.length_set];omega)⟩ (by omega) (bO [9,7,6,3,2,1,0] _ (sk 10 (congrArg (fun x=>some (Value.int .i64 x)) (by omega)) (aI [36,29] A)) A) (eJ [1,0,0] A)
 have hmk:=h16
 refine aU 6 A (aR A ?_)
 refine bM (gF ?_)
 refine aO (bF (bZ 1 A (aP A (iM A A A) (dJ 1 A ?_))))
 exact cG (k-1) bs ⟨by omega,hop.trans (vU (by omega) (by first|exact .inl hmk|exact .inr (by assumption))),by first|omega|(simp only[List.length_set];omega)⟩ (by omega) (bO [9,7,6,3,2,1,0] _ (sk 10 (congrArg (fun x=>some (Value.int .i64 x)) (by omega)) (aI [36,29] A)) A) (dS A)
 refine bR (aS A ?_)
 refine bM (dI ?_)
 refine aO (bF (bD 1 A ?_))
 exact aV (cA A A (congrArg Value.bool (nQ (p:=CutP n node cut) ⟨by omega,fun i hi=>hel i (by omega),by rw[hop,show k=0 by omega];rfl⟩).symm))
theorem rX (n:Nt) (node:Int) (cut:List Int) (cv:Value) (w:World) (hr:RdsNt w n) (hn:NtOk n) (hcr:RdsW w cv 1 cut.length (cut.map (Value.int .i64))) (hnd:0≤node∧node<n.cnt) (hcp:CutP n node cut) :
   Calls Tryz.prog 92 #[.agg #[.int .i64 n.ins,n.sv,n.av,n.ov],.int .i64 node,cv] w (Ret w (fun u_ p_=>∃b:Int,u_=.agg #[.int .i64 (cut.length:Int),.int .i64 b]∧p_=[]∧TabOk (Tab.mk (cut.length:Int) b))):=by
 have hi0:=hn.i0
 have hi1:=hn.i1
 have hs1:=hn.s1
 have ha1:=hn.a1
 have ho1:=hn.o1
 have hcnt:n.cnt=1+n.ins+n.ss.length+n.gs.length:=rfl
 have hfst:n.fst=1+n.ins+n.ss.length:=rfl
 have hcl4:=hcp.len
 have hpn:=lL (n:=(cut.length:Int)) (by omega)
 refine bN (N:=96) (args:=[.agg #[jI n.ins,n.sv,n.av,n.ov],jI node,cv]) Tryz.func92 A A (cF ?_)
 refine cR A (cN A A) ?_
 intro b1
 refine cR A (bP (z:=.agg #[jI 0,jI 0]) A A) ?_
 intro b2
 refine bR (eP (aP A (aF (cs:=[jI n.ins,n.sv,n.av,n.ov]) A A A A A (aD 1 A 0 A)) (aM 2 A ?_)))
 refine dA A (aJ A A (fun w hm=>aY (by have h9:=rN n node cut cv w (hr.below hm.bel) hn (hcr.below hm.bel) hnd (by omega);rw[nQ hcp] at h9;exact h9))) (aM 1 A (dB (bF (aS A (fP (bF (aC (bJ (aM 1 A (aP A (bC A Tryz.underlying26 A (aE hcr)) (aP A (dQ (cs:=#[jI (cut.length:Int),jI 0]) A A A) ?_)))))))))))
 refine cR A (bP (z:=.agg #[jI 0,jI 0]) A A) ?_
 intro b3
 refine bI (cs':=#[jI (cut.length:Int),jI 0]) (i:=0) (off:=0) (us:=[jI (cut.length:Int),jI 0]) A A A A A A A (aA A (aA A bA)) A A A (bR (aC (bD 1 A (bE ?_))))
 refine gT (α:=Nat) (β:=Int) [0,1,2,3,6,7,18] A (fun i b=>[boxE b3 #[jI (cut.length:Int),jI b] 111,boxE b2 #[jI 0,jI 0] 111,nB9 b1 n]) (fun i b=>[(8,jI (i:Int))]) (fun i b=>i≤pn_o (cut.length:Int)∧0≤b∧b<2 ^ i) (fun i b=>pn_o (cut.length:Int)-i) 0 0 ⟨Nat.zero_le _,Int.le_refl _,by decide⟩ (cT A) (dS A) ?_
 intro i b hi4
 obtain⟨hi,hb0,hb1⟩:=hi4
 have hp16:=sM (k:=i) (by omega)
 refine aC (aC (bJ (aM 2 A (aP A (bC A Tryz.underlying26 A (aE hcr)) (aP A (fY (k:=.i64) (kk:=.i64) (r:=(pn_o (cut.length:Int):Int)) A A A A (by omega) (Ci (by omega))) ?_)))))
 refine bQ A A A A A A (fun h5=>?_) (fun h5=>?_)
 refine bR (aR A (bY (fM (cF (aP A (aF (cs:=[jI n.ins,n.sv,n.av,n.ov]) A A A A A (aD 2 A 0 A)) ?_)))))
 refine dA A (aJ A A (fun w hm=>aY (cS n w (hr.below hm.bel) hn))) (dP A (gN (z:=jI 0) (s:=1) (bytes:=8) (n:=(List.replicate n.cnt.toNat (0:Int)).length) (cs:=(mI (List.replicate n.cnt.toNat (0:Int)))) A Tryz.underlying26 A (by decide) A A (by first|(rw[List.length_replicate];done)|(rw[List.length_replicate];omega)) (by first|(rw[List.length_replicate];done)|(rw[List.length_replicate];omega)) (by rw[List.length_replicate];omega) (gY _)) ?_)
 intro g6
 refine aU 1 A (aC (bD 1 A (bE ?_)))
 refine gT (α:=Nat) (β:=List Int) [0,1,2,3,6,7,8,9,18,27] rfl (fun k vs=>[rI9 3 (.slice (some ⟨g6,0,none⟩) ((List.replicate n.cnt.toNat (0:Int)).length) ((List.replicate n.cnt.toNat (0:Int)).length)) vs,boxE b3 #[jI (cut.length:Int),jI b] 111,boxE b2 #[jI 0,jI 0] 111,nB9 b1 n]) (fun k vs=>[(10,jI (k:Int))]) (fun k vs=>(k:Int)≤node+1∧vs.length=n.cnt.toNat∧B01 vs) (fun k vs=>node.toNat+1-k) 0 _ ⟨by omega,by rw[List.length_replicate],Gj _⟩ (cT rfl) (dS rfl) ?_
 intro k vs hi7
 obtain⟨hk,hvl,hv01⟩:=hi7
 refine aC (aC (bZ 2 A ?_))
 refine qY A A A A A A (fun h8=>?_) (fun h8=>?_)
 refine bR (aR A (bY (fM (bD 1 A ?_))))
 refine aC (bD 1 A (bE ?_))
 refine iC (α:=Nat) (β:=List Int) (γ:=Bool) [0,1,2,3,6,7,8,9,10,18,27,35] A (fun j vs2 sb=>[rI9 3 (.slice (some ⟨g6,0,none⟩) ((List.replicate n.cnt.toNat (0:Int)).length) ((List.replicate n.cnt.toNat (0:Int)).length)) vs2,boxE b3 #[jI (cut.length:Int),jI b] 111,boxE b2 #[jI 0,jI 0] 111,nB9 b1 n]) (fun j vs2 sb=>[(11,.bool sb),(12,jI (j:Int))]) (fun j vs2 sb=>j≤cut.length∧vs2.length=n.cnt.toNat∧B01 vs2) (fun j vs2 sb=>cut.length-j) 0 vs false ⟨Nat.zero_le _,hvl,hv01⟩ (cT A) (dS A) ?_
 intro j vs2 sb hi9
 obtain⟨hj,hvl2,hv02⟩:=hi9
 refine aC (aC (bZ 2 A (aP A (bC A Tryz.underlying26 A (aE hcr)) ?_)))
 refine bQ A A A A A A (fun h10=>?_) (fun h10=>?_)
 refine bR (aR A (bY (fM (aC (bZ 2 A (aP A (dF 1 A A A A (aE hcr)) (aP A (hC A A A (aE hcr)) (aM 1 A ?_))))))))
 refine cM A A A A A A (fun h11=>?_) (fun h11=>?_)
 refine(dB (bF (aR A (aC (bJ (aM 4 A (aP A (iO A A A (by omega)) (aP A (cP A (by decide) A A (r:=((i:Int) / 2 ^ (j:Int).toNat % 2)) (zE _ (by omega))) (aP A (dF 1 A A A A (aG 0 A)) ?_)))))))))
 refine eN (i:=0) (n':=(vs2.set k ((i:Int) / 2 ^ (j:Int).toNat % 2)).length) (xs':=(mI (vs2.set k ((i:Int) / 2 ^ (j:Int).toNat % 2)))) A A A A A A A A (by first|omega|(simp only[List.length_set];omega)) List.length_set.symm (fB _ _ _) A (bR (bJ (dJ 1 A (cK (bZ 1 A (aP A (dM A A A) (aM 1 A (?_))))))))
 exact dB (cI (j+1) (vs2.set k ((i:Int) / 2 ^ (j:Int).toNat % 2)) true ⟨by omega,by rw[List.length_set];exact hvl2,Aq hv02 (by omega)⟩ (by omega) (cT rfl) (dS rfl))
 refine bR (hH A (cK (bZ 1 A (aP A (dM A A A) (dJ 1 A ?_)))))
 exact cI (j+1) vs2 sb ⟨by omega,hvl2,hv02⟩ (by omega) (cT A) (dS A)
 refine bR (aS A ?_)
 refine bM (dI ?_)
 refine aO (bF (aC (bZ 1 A ?_)))
 refine bW (fun h12=>?_) (fun h12=>?_)
 refine aU 7 A (hH A (cK (bZ 1 A ?_)))
 refine aP A (dM A A A) (dJ 1 A ?_)
 exact cG (k+1) vs2 ⟨by omega,hvl2,hv02⟩ (by omega) (cT A) (dS A)
 refine aM 3 A (aP A (aF (cs:=[jI n.ins,n.sv,n.av,n.ov]) A A A A A (aD 3 A 0 A)) ?_)
 refine dA A (aJ A A (fun w hm=>aY (dD n w (hr.below hm.bel) hn))) (gO A A A A A A (fun h13=>?_) (fun h13=>?_))
 refine aU 1 A (aR A (aC ?_))
 have hani:=hn.an ((k:Int)-n.fst).toNat (by omega)
 unfold LtOk at hani
 refine eV A 9 [0,1,2,3,4,5,6,7,8] (List.take 9 _) (List.drop 9 _) [[],[0],[],[],[3],[2,4],[1,5],[6],[]] [65,66,67,68,69,70,71,72,13] (fun i_ vs_ v_ p_=>match i_ with|0=>v_=.pointer (some ⟨b1,0+2,none⟩)∧p_=[]|1=>v_=n.av∧p_=[]|2=>v_=jI (k:Int)∧p_=[]|3=>v_=.agg #[jI n.ins,n.sv,n.av,n.ov]∧p_=[]|4=>v_=jI n.fst∧p_=[]|5=>v_=jI ((k:Int)-n.fst)∧p_=[]|6=>v_=elP n.av (((k:Int)-n.fst).toNat*2)∧p_=[]|7=>v_=.agg #[jI ((n.gs.getD (((k:Int)-n.fst).toNat) an0).a),jI ((n.gs.getD (((k:Int)-n.fst).toNat) an0).b)]∧p_=[]|8=>IsBox #[jI 0,jI 0] 67 v_ p_|_=>True) (List.take_append_drop 9 _).symm (by kernel_rfl) (by kernel_rfl) A A ?_ ?_
 refine⟨?_,?_,?_,?_,?_,?_,?_,?_,?_,trivial⟩
 intro vf pf hR
 exact fX A (aI [3] A) (aT (cQ 2 A A A))
 intro vf pf hR
 have e0:=hR 0 (by decide)
 exact eZ A (sk 65 (congrArg some e0.1) (aB _)) (aT (aN A A A (aH 3 A A)))
 intro vf pf hR
 exact fX A (aI [10] A) (aT (aK A))
 intro vf pf hR
 exact eZ A (aI [3] A) (aT (aF (cs:=[jI n.ins,n.sv,n.av,n.ov]) A A A A A (aD 3 A 0 A)))
 intro vf pf hR
 have e3:=hR 3 (by decide)
 exact eZ A (sk 68 (congrArg some e3.1) (aB _)) (aJ A A (fun w hm=>aY (dD n w (hr.below hm.bel) hn)))
 intro vf pf hR
 have e2:=hR 2 (by decide)
 have e4:=hR 4 (by decide)
 exact fX A (sk 67 (congrArg some e2.1) (sk 69 (congrArg some e4.1) (aB _))) (aT (iM A A A))
 intro vf pf hR
 have e1:=hR 1 (by decide)
 have e5:=hR 5 (by decide)
 exact eZ A (sk 66 (congrArg some e1.1) (sk 70 (congrArg some e5.1) (aB _))) (aT (dF 2 A A A A (aE hr.an)))
 intro vf pf hR
 have e6:=hR 6 (by decide)
 exact eZ A (sk 71 (congrArg some e6.1) (aB _)) (aT (eI (us:=[jI ((n.gs.getD (((k:Int)-n.fst).toNat) an0).a),jI ((n.gs.getD (((k:Int)-n.fst).toNat) an0).b)]) A A A A (aE hr.an) (by omega) A (fC anC 2 (fun _=>A) n.gs an0 (show((k:Int)-n.fst).toNat<_ by omega) A)))
 intro vf pf hR
 exact eZ A (aB _) (bP (z:=.agg #[jI 0,jI 0]) A A)
 intro vf pf hR
 have e7:=hR 7 (by decide)
 have e8:IsBox #[jI 0,jI 0] 67 (vf 8) (pf 8):=hR 8 (by decide)
 obtain⟨b14,vE8,pE8⟩:=e8
 have q0:=hR 0 (by decide)
 have q1:=hR 1 (by decide)
 have q2:=hR 2 (by decide)
 have q3:=hR 3 (by decide)
 have q4:=hR 4 (by decide)
 have q5:=hR 5 (by decide)
 have q6:=hR 6 (by decide)
 have q7:=hR 7 (by decide)
 refine cE (bO [12,11,10,9,8,7,6,3,2,1,0] _ (sk 13 (congrArg some vE8) (bO [64,41,35,27,18] _ (sk 72 (congrArg some e7.1) (aB _)) A)) A) (by simp only[pE8,vE8,q0.2,q1.2,q2.2,q3.2,q4.2,q5.2,q6.2,q7.2,fS]<;>rfl) ?_
 simp only[List.drop_succ_cons,List.drop_zero]
 refine bI (cs':=#[jI ((n.gs.getD (((k:Int)-n.fst).toNat) an0).a),jI ((n.gs.getD (((k:Int)-n.fst).toNat) an0).b)]) (i:=0) (off:=0) (us:=[jI ((n.gs.getD (((k:Int)-n.fst).toNat) an0).a),jI ((n.gs.getD (((k:Int)-n.fst).toNat) an0).b)]) A A A A A A A (aA A (aA A bA)) A A A (bR ?_)
 refine cJ 12 [[],[],[],[],[3],[2,4],[],[],[7],[6,8],[5,9],[0,1]] [73,74,75,76,77,78,79,80,81,82,83,84] [.slice (some ⟨g6,0,none⟩) ((List.replicate n.cnt.toNat (0:Int)).length) ((List.replicate n.cnt.toNat (0:Int)).length),jI (k:Int),.slice (some ⟨g6,0,none⟩) ((List.replicate n.cnt.toNat (0:Int)).length) ((List.replicate n.cnt.toNat (0:Int)).length),.pointer (some ⟨b14,0+0,none⟩),jI ((n.gs.getD (((k:Int)-n.fst).toNat) an0).a),jI (bitL vs2 ((n.gs.getD (((k:Int)-n.fst).toNat) an0).a)),.slice (some ⟨g6,0,none⟩) ((List.replicate n.cnt.toNat (0:Int)).length) ((List.replicate n.cnt.toNat (0:Int)).length),.pointer (some ⟨b14,0+1,none⟩),jI ((n.gs.getD (((k:Int)-n.fst).toNat) an0).b),jI (bitL vs2 ((n.gs.getD (((k:Int)-n.fst).toNat) an0).b)),jI ((bitL vs2 ((n.gs.getD (((k:Int)-n.fst).toNat) an0).a))*(bitL vs2 ((n.gs.getD (((k:Int)-n.fst).toNat) an0).b))),elP (.slice (some ⟨g6,0,none⟩) ((List.replicate n.cnt.toNat (0:Int)).length) ((List.replicate n.cnt.toNat (0:Int)).length)) ((k:Int).toNat*1)] (by kernel_rfl) A ?_ ?_
 exact⟨bK A (aK A) A,bK A (aK A) A,bK A (aK A) A,bK A (cQ 0 A A A) A,bK A (aN A A A (aH 0 A A)) A,.inl ⟨A,aJ (by kernel_rfl) A (fun w hm=>aY (jR vs2 ((n.gs.getD (((k:Int)-n.fst).toNat) an0).a) _ w ((aG 1 A) w hm) (by omega) (hv02 _ (by omega)) (by omega)))⟩,bK A (aK A) A,bK A (cQ 1 A A A) A,bK A (aN A A A (aH 0 A A)) A,.inl ⟨A,aJ (by kernel_rfl) A (fun w hm=>aY (jR vs2 ((n.gs.getD (((k:Int)-n.fst).toNat) an0).b) _ w ((aG 1 A) w hm) (by omega) (hv02 _ (by omega)) (by omega)))⟩,bK A (cP A (by decide) A A (r:=(bitL vs2 ((n.gs.getD (((k:Int)-n.fst).toNat) an0).a))*(bitL vs2 ((n.gs.getD (((k:Int)-n.fst).toNat) an0).b))) (Es (jA hv02 (by omega) (by omega)) (jA hv02 (by omega) (by omega)))) A,bK A (dF 1 A A A A (aG 1 A)) A,trivial⟩
 simp only[List.drop_succ_cons,List.drop_zero]
 refine eN (i:=1) (n':=(vs2.set k ((bitL vs2 ((n.gs.getD (((k:Int)-n.fst).toNat) an0).a))*(bitL vs2 ((n.gs.getD (((k:Int)-n.fst).toNat) an0).b)))).length) (xs':=((vs2.set k ((bitL vs2 ((n.gs.getD (((k:Int)-n.fst).toNat) an0).a))*(bitL vs2 ((n.gs.getD (((k:Int)-n.fst).toNat) an0).b)))).map (Value.int .i64))) A A A A A A A A (by first|omega|(simp only[List.length_set];omega)) List.length_set.symm (fB _ _ _) A (dB (cK (bZ 1 A (aP A (dM A A A) (dJ 1 A ?_)))))
 exact cG (k+1) (vs2.set k ((bitL vs2 ((n.gs.getD (((k:Int)-n.fst).toNat) an0).a))*(bitL vs2 ((n.gs.getD (((k:Int)-n.fst).toNat) an0).b)))) ⟨by omega,by rw[List.length_set];exact hvl2,Aq hv02 (mul_01 (jA hv02 (by omega) (by omega)) (jA hv02 (by omega) (by omega)))⟩ (by omega) (cT rfl) (eJ [1,0,0,0] rfl)
 refine aU 1 A (hH A (cK (bZ 1 A (aP A (dM A A A) (dJ 1 A ?_)))))
 exact cG (k+1) vs2 ⟨by omega,hvl2,hv02⟩ (by omega) (cT A) (dS A)
 refine bR (aS A ?_)
 refine bM (dI ?_)
 refine aO (bF ?_)
 have hvb:=hv01 node.toNat (by omega)
 refine cJ 10 [[],[0],[],[],[2,3],[4],[],[5,6],[1,7],[]] [85,86,87,88,89,90,91,92,93,94] [.pointer (some ⟨b3,0+1,none⟩),jI b,.slice (some ⟨g6,0,none⟩) ((List.replicate n.cnt.toNat (0:Int)).length) ((List.replicate n.cnt.toNat (0:Int)).length),jI node,elP (.slice (some ⟨g6,0,none⟩) ((List.replicate n.cnt.toNat (0:Int)).length) ((List.replicate n.cnt.toNat (0:Int)).length)) (node.toNat*1),jI (vs.getD (node.toNat) 0),jI (i:Int),jI ((vs.getD node.toNat 0)*2 ^ i),jI (b+((vs.getD node.toNat 0)*2 ^ i)),.pointer (some ⟨b3,0+1,none⟩)] (by kernel_rfl) A ?_ ?_
 exact⟨bK A (cQ 1 A A A) A,bK A (aN A A A (aH 1 A A)) A,bK A (aK A) A,bK A (aK A) A,bK A (dF 1 A A A A (aG 0 A)) A,bK A (rR A A A (aG 0 A)) A,bK A (aK A) A,bK A (fY (k:=.i64) (kk:=.i64) (r:=(vs.getD node.toNat 0)*2 ^ i) A A A A (by omega) (lI hvb (by omega))) A,bK A (oI A A A (by rcases hvb with e9|e9<;>rw[e9]<;>constructor<;>omega)) A,bK A (cQ 1 A A A) A,trivial⟩
 simp only[List.drop_succ_cons,List.drop_zero]
 refine fI (i:=1) (cs':=#[jI (cut.length:Int),jI (b+((vs.getD node.toNat 0)*2 ^ i))]) A A A A A A A A A A A (dB (cK (bZ 1 A (aP A (dM A A A) (dJ 1 A ?_)))))
 exact cG (i+1) (b+((vs.getD node.toNat 0)*2 ^ i)) ⟨by omega,(mG ⟨hb0,hb1⟩ hvb).1,(mG ⟨hb0,hb1⟩ hvb).2⟩ (by omega) (cT A) (eJ [1,0,0] A)
 refine bR (aS A ?_)
 refine bM (dI ?_)
 refine aO (bF (aC (bJ (aP A (aF (cs:=[jI (cut.length:Int),jI b]) A A A A A (aD 0 A 0 A)) ?_))))
 refine bI (cs':=#[jI (cut.length:Int),jI b]) (i:=1) (off:=0) (us:=[jI (cut.length:Int),jI b]) A A A A A A A (aA A (aA A bA)) A A A (bR ?_)
 exact aV (bV (rs:=[.cell 6 111]) (vs:=[.agg #[jI (cut.length:Int),jI b]]) (post:=[]) A ⟨⟨b2,0,[jI (cut.length:Int),jI b],A,A,by kernel_rfl,by kernel_rfl,aD 1 A 0 A⟩,trivial⟩ A (eJ [] A) ⟨b,A,A,En (by omega) (by omega) ⟨hb0,hb1⟩⟩)
theorem Ge {v:Value}{rs:List CRow}{w:World}(h:(clE v rs).holds w):RdsCl w v rs:=⟨bT (aX h (List.mem_cons_of_mem _ List.mem_cons_self)),fun r hr=>bT (aX (aX h List.mem_cons_self) (List.mem_map.2 ⟨r,hr,rfl⟩))⟩
theorem Ej (w:World):RdsCl w (.slice none 0 0) []:=⟨dN (w0:=w) (l:=[]) w (Mem.refl w),fun r hr=>by cases hr⟩
theorem bv_16 (vs:List Int) {k:Nat}(h:k≤16):0≤bvB vs k∧bvB vs k≤65535:=by
  have h1:=rG vs k
  have h2:=sM h
  omega
theorem kD (n:Nt) (bits:Int) (w:World) (hr:RdsNt w n) (hn:NtOk n) (hbt:0≤bits∧bits≤4294967295) :
   Calls Tryz.prog 8 #[.agg #[.int .i64 n.ins,n.sv,n.av,n.ov],.int .i64 bits] w (Ret w (fun v' post=>post=[rI9 3 v' ((rvL n bits (rtsL n n.ss.length).length))])):=by
 have hi0:=hn.i0
 have hi1:=hn.i1
 have hs1:=hn.s1
 have ha1:=hn.a1
 have ho1:=hn.o1
 have hcnt:n.cnt=1+n.ins+n.ss.length+n.gs.length:=rfl
 have hfst:n.fst=1+n.ins+n.ss.length:=rfl
 refine bN (N:=54) (args:=[.agg #[jI n.ins,n.sv,n.av,n.ov],jI bits]) Tryz.func8 A A (cF ?_)
 refine cR A (cN A A) ?_
 intro b1
 refine aU 1 A (eP (aP A (aF (cs:=[jI n.ins,n.sv,n.av,n.ov]) A A A A A (aD 0 A 0 A)) ?_))
 refine dA A (aJ A A (fun w hm=>aY (mQ n w (hr.below hm.bel) hn))) (aU 1 A (aS A (bY (cF (aP A (cQ 1 A A A) (aP A (aN A A A (aH 0 A A)) (aP A (bC A Tryz.underlying24 A (aE hr.sq)) ?_)))))))
 refine dP A (gN (z:=jI 0) (s:=1) (bytes:=8) (n:=(List.replicate n.ss.length (0:Int)).length) (cs:=(mI (List.replicate n.ss.length (0:Int)))) A Tryz.underlying26 A (by decide) A A (by first|(rw[List.length_replicate];done)|(rw[List.length_replicate];omega)) (by first|(rw[List.length_replicate];done)|(rw[List.length_replicate];omega)) (by rw[List.length_replicate];omega) (gY _)) ?_
 intro g2
 refine aU 1 A (aC (aC (bZ 1 A (aP A (bC A Tryz.underlying26 A (aG 0 A)) (aU 1 A (bE ?_))))))
 refine fE [rowE 3 1 (.slice (some ⟨g2,0,none⟩) ((List.replicate n.ss.length (0:Int)).length) ((List.replicate n.ss.length (0:Int)).length)) ((fillZ n.ss.length (stB n bits 0)).length) (mI (fillZ n.ss.length (stB n bits 0))),nB9 b1 n] (fun w hm=>by rw[show fillZ n.ss.length (stB n bits 0)=List.replicate n.ss.length (0:Int) by simp[fillZ,stB]];exact hm) ?_
 refine hO (α:=Nat) [0,1,2,4,5,13,19] A (fun k=>[rowE 3 1 (.slice (some ⟨g2,0,none⟩) ((List.replicate n.ss.length (0:Int)).length) ((List.replicate n.ss.length (0:Int)).length)) ((fillZ n.ss.length (stB n bits k)).length) (mI (fillZ n.ss.length (stB n bits k))),nB9 b1 n]) (fun k=>[(20,jI (k:Int))]) (fun k=>k≤n.ss.length) (fun k=>n.ss.length-k) 0 (Nat.zero_le _) (cT A) (dS A) ?_
 intro k hi3
 have hk:=hi3
 have hrl:(List.replicate n.ss.length (0:Int)).length=n.ss.length:=List.length_replicate
 have hsl:=hY n bits k
 have hfl:=gL (C:=n.ss.length) (vs:=stB n bits k) (by omega)
 refine cF ?_
 refine bQ A A A A A A (fun h4=>?_) (fun h4=>?_)
 refine bR (nF A (bY (fM (cF (dJ 2 A ?_)))))
 refine bF (bJ (aM 3 A (aP A (cQ 0 A A A) (aP A (aN A A A (aH 1 A A)) (aM 1 A (aP A (dM A A A) (aP A (tR A Tryz.underlying3 Tryz.underlying59 A (IntWalk.u64_in _ (by omega))) (aP A (iO A A A (by omega)) (aP A (cP A (by decide) A A (r:=bits / 2 ^ (n.ins.toNat+k) % 2) (by rw[show(n.ins+(k:Int)).toNat=n.ins.toNat+k by omega];exact Bit.and_one _ (nL hbt _).1 (by have:=(nL hbt (n.ins.toNat+k)).2;omega))) (aP A (dF 1 A A A A (aG 0 A)) ?_))))))))))
 refine eN (i:=0) (n':=((fillZ n.ss.length (stB n bits k)).set k (bits / 2 ^ (n.ins.toNat+k) % 2)).length) (xs':=(mI ((fillZ n.ss.length (stB n bits k)).set k (bits / 2 ^ (n.ins.toNat+k) % 2)))) A A A A A A A A (by first|omega|(simp only[List.length_set];omega)) List.length_set.symm (fB _ _ _) A (dB (cK (bJ (aP A (dM A A A) (dJ 1 A ?_)))))
 exact oS (l':=[rowE 3 1 (.slice (some ⟨g2,0,none⟩) ((List.replicate n.ss.length (0:Int)).length) ((List.replicate n.ss.length (0:Int)).length)) ((fillZ n.ss.length (stB n bits (k+1))).length) (mI (fillZ n.ss.length (stB n bits (k+1)))),nB9 b1 n]) (by rw[iK (j:=k) (by omega) (by omega),vH]) (cU (k+1) (by omega) (by omega) (cT A) (dS A))
 refine bR (nG A ?_)
 refine bM (dI ?_)
 refine aO (bF (cF ?_))
 have hkk:k=n.ss.length:=by omega
 refine eC (l':=[rowE 3 1 (.slice (some ⟨g2,0,none⟩) ((List.replicate n.ss.length (0:Int)).length) ((List.replicate n.ss.length (0:Int)).length)) ((stB n bits n.ss.length).length) (mI (stB n bits n.ss.length)),nB9 b1 n]) (by rw[hkk,oD (hY n bits n.ss.length)]) ?_
 have hsoB:StOk n (stB n bits n.ss.length):=⟨hY _ _ _,fun k hk=>by rw[xU n bits hk];have h9:=Int.emod_nonneg (bits / 2 ^ (n.ins.toNat+k)) (show(2:Int)≠0 by decide);have h8:=Int.emod_lt_of_pos (bits / 2 ^ (n.ins.toNat+k)) (show(0:Int)<2 by decide);(first|omega|(split<;>omega)|exact⟨h9,by omega,fun _=>by omega⟩)⟩
 have hva:=nI hn (hY n bits n.ss.length) bits
 have hvl:=hva.len
 have hrtl:=gM hn n.ss.length (Nat.le_refl _)
 refine aP A (aF (cs:=[jI n.ins,n.sv,n.av,n.ov]) A A A A A (aD 1 A 0 A)) (aM 2 A ?_)
 refine eB A A A (aJ A A (fun w hm=>nA n (stB n bits n.ss.length) _ bits w (hr.below hm.bel) hn ((aG 0 A) w hm) hsoB)) ?_
 intro v5 p6 R7
 subst R7
 refine aU 1 A (cF ?_)
 refine jM 3 1 (aU 1 A (eP (aP A (aF (cs:=[jI n.ins,n.sv,n.av,n.ov]) A A A A A (aD 3 A 0 A)) ?_)))
 refine eB A A A (aJ A A (fun w hm=>sI n w (hr.below hm.bel) hn)) ?_
 intro v9 p10 R11
 subst R11
 refine aP A (bC A Tryz.underlying26 A (aG 0 A)) (aU 1 A (bE ?_))
 refine iC (α:=Nat) (β:=Value) (γ:=List Int) [0,1,2,4,5,7,13,19,20,21,40,41] A (fun q u3 ys=>[rowE 3 1 v9 ((rtsL n n.ss.length).length) (mI (rtsL n n.ss.length)),rI9 3 u3 ys,rowE 3 1 v5 ((valsL n (stB n bits n.ss.length) bits).length) (mI (valsL n (stB n bits n.ss.length) bits)),rowE 3 1 (.slice (some ⟨g2,0,none⟩) ((List.replicate n.ss.length (0:Int)).length) ((List.replicate n.ss.length (0:Int)).length)) ((stB n bits n.ss.length).length) (mI (stB n bits n.ss.length)),nB9 b1 n]) (fun q u3 ys=>[(8,u3),(42,jI (q:Int))]) (fun q u3 ys=>q≤(rtsL n n.ss.length).length∧ys=rvL n bits q∧ys.length=q) (fun q u3 ys=>(rtsL n n.ss.length).length-q) 0 _ [] ⟨by omega,A,A⟩ (cT A) (dS A) ?_
 intro q u3 ys hi12
 obtain⟨hq,hy,hyl⟩:=hi12
 refine cF ?_
 refine bQ A A A A A A (fun h13=>?_) (fun h13=>?_)
 refine bR (nF A (bY (fM (cF (aP A (dF 1 A A A A (aG 0 A)) (aP A (bG (u:=jI ((rtsL n n.ss.length).getD q 0)) A A A (aG 0 A) (eS (show _<(rtsL n n.ss.length).length by omega))) (aM 1 A ?_)))))))
 refine bR (bJ ?_)
 have hrk:=eM hn (i:=q) (by omega)
 unfold LtOk at hrk
 refine aM 3 A (dA A (aJ A A (fun w hm=>aY (iX (valsL n (stB n bits n.ss.length) bits) ((rtsL n n.ss.length).getD q 0) _ w ((aG 2 A) w hm) ⟨hrk.1,by omega⟩ (hva.b01 _ (by omega)) (by omega)))) ?_)
 refine dP A (bB (z:=jI 0) (s:=1) (cs:=(mI [bitL (valsL n (stB n bits n.ss.length) bits) ((rtsL n n.ss.length).getD q 0)])) A Tryz.underlying26 A (by decide) A (by kernel_rfl) A) ?_
 intro g14
 refine cW (i:=2) (z:=jI 0) (bytes:=8) A A A A Tryz.underlying26 (by kernel_rfl) A A A A (aG 0 A) (cO _) (by first|omega|(simp;done)|(simp;omega)) (cH ys ([bitL (valsL n (stB n bits n.ss.length) bits) ((rtsL n n.ss.length).getD q 0)])) (dL ys ([bitL (valsL n (stB n bits n.ss.length) bits) ((rtsL n n.ss.length).getD q 0)])) (fun _=>A) ?_
 intro v15
 refine dJ 1 A (cK (bJ (aP A (dM A A A) (dJ 1 A ?_))))
 exact cI (q+1) v15 (ys++([bitL (valsL n (stB n bits n.ss.length) bits) ((rtsL n n.ss.length).getD q 0)])) ⟨by omega,by rw[hy];exact vN _ _ (by omega),by rw[List.length_append,List.length_singleton];omega⟩ (by omega) (cT rfl) (eJ [1,0,0,0,0] rfl)
 refine bR (nG A ?_)
 refine bM (dI ?_)
 refine aO (bF (bD 2 A ?_))
 refine aV ?_
 have hyy:ys=rvL n bits (rtsL n n.ss.length).length:=by rw[hy,show q=(rtsL n n.ss.length).length by omega]
 exact dX (post:=[rI9 3 u3 ys]) A A (eJ [1] A) (by first|(rw[hyy];done)|(rw[hyy];rfl))
theorem Cg (n:Nt) (w:World) (hr:RdsNt w n) (hn:NtOk n) :
   Calls Tryz.prog 9 #[.agg #[.int .i64 n.ins,n.sv,n.av,n.ov]] w (Ret w (fun v' post=>post=[rI9 3 v' (rtsL n n.ss.length)])):=by
 have hi0:=hn.i0
 have hi1:=hn.i1
 have hs1:=hn.s1
 have ha1:=hn.a1
 have ho1:=hn.o1
 have hcnt:n.cnt=1+n.ins+n.ss.length+n.gs.length:=rfl
 have hfst:n.fst=1+n.ins+n.ss.length:=rfl
 refine bN (N:=9) (args:=[.agg #[jI n.ins,n.sv,n.av,n.ov]]) Tryz.func9 A A (cF ?_)
 refine cR A (cN A A) ?_
 intro b1
 refine aU 1 A (eP (aP A (aF (cs:=[jI n.ins,n.sv,n.av,n.ov]) A A A A A (aD 0 A 0 A)) ?_))
 refine dA A (aJ A A (fun w hm=>aY (eA n w (hr.below hm.bel) hn))) (aU 1 A (aS A (bY (cF (aP A (aF (cs:=[jI n.ins,n.sv,n.av,n.ov]) A A A A A (aD 0 A 0 A)) ?_)))))
 refine eB A A A (aJ A A (fun w hm=>gW n w (hr.below hm.bel) hn)) ?_
 intro v2 p3 R4
 subst R4
 refine aU 1 A ?_
 exact aV (dX (post:=[rowE 3 1 v2 ((rtsL n n.ss.length).length) (mI (rtsL n n.ss.length))]) A A (eJ [0] A) A)
theorem zH (a b:Nt) (w:World) (ra:RdsNt w a) (rb_:RdsNt w b) (hA:NtSm a) (hB:NtSm b) (hf8:a.fst≤8) :
   Calls Tryz.prog 7 #[.agg #[.int .i64 a.ins,a.sv,a.av,a.ov],.agg #[.int .i64 b.ins,b.sv,b.av,b.ov],.int .i64 600] w (Ret w (fun u_ p_=>(∃(ps:List HP) (cd y:Int) (q:Value) (pr:List CRow),u_=.tuple #[.int .i64 cd,.int .i64 y,q]∧p_=[bigE ps]∧(∀w,(bigE ps).holds w→RdsCl w q pr)∧q.oneCell'=true∧(0≤y∧y≤65535)∧CeqR a b cd y pr))):=by
 refine bN (N:=70) (args:=[.agg #[jI a.ins,a.sv,a.av,a.ov],.agg #[jI b.ins,b.sv,b.av,b.ov],jI 600]) Tryz.func7 A A (cF ?_)
 refine cR A (cN A A) ?_
 intro b1
 refine cR A (cN A A) ?_
 intro b2
 refine aU 3 A (cF (aP A (aF (cs:=[jI a.ins,a.sv,a.av,a.ov]) A A A A A (aD 1 A 0 A)) (aP A (aF (cs:=[jI b.ins,b.sv,b.av,b.ov]) A A A A A (aD 0 A 0 A)) ?_)))
 refine eB A A A (aJ A A (fun w hm=>mS a b w (ra.below hm.bel) (rb_.below hm.bel) hA hB)) ?_
 intro v3 p4 R5
 obtain⟨pm,m,rfl,rfl,hpm,⟨o1m,o2m,o3m⟩,hmi⟩:=R5
 refine aM 3 A (bW (fun h6=>?_) (fun h6=>?_))
 obtain⟨r,hr⟩:=Option.isSome_iff_exists.1 h6
 have hN:=hmi.net hr
 have hno:=hN.ok
 have hnl:=hN.ol
 have hmf:=hN.fst
 have hna:=hno.a1
 have hmc:=gI m
 have hni0:=hno.i0
 have hmfd:m.fst=1+m.ins+m.ss.length:=rfl
 obtain⟨hlt0,hlt1⟩:=id hN.lit
 refine cR A (bP (z:=.agg #[jI 0,.slice none 0 0,.slice none 0 0,.slice none 0 0]) A A) ?_
 intro b7
 refine bI (cs':=#[jI m.ins,m.sv,m.av,m.ov]) (i:=0) (off:=0) (us:=[jI m.ins,m.sv,m.av,m.ov]) A A A A A A A (aA A (aA o1m (aA o2m (aA o3m bA)))) A A A (aU 1 A (aC (aC (bZ 4 A ?_))))
 refine dA A (aJ A A (fun w hm=>aY (gP (eL _ _ _ w)))) (bW (fun h8=>?_) (fun h8=>absurd ((((eK _ _ _).2 (by omega))).symm.trans h8) (by decide)))
 refine aU 2 A (aS A (bY (aC ?_)))
 refine eF (l:=[nB9 b7 m,bigE pm,nB9 b2 b,nB9 b1 a]) A 11 [0,1,2,3,4,5,6,7,8,9,10] (List.take 11 _) (List.drop 11 _) [[],[],[1],[2],[3],[0,4],[5],[5,6],[5,6],[],[5,7,9]] [some 32,some 33,some 34,some 35,some 36,some 37,some 31,some 38,some 39,some 11,none] (fun i_ vs_ v_ p_=>match i_ with|0=>v_=.agg #[jI m.ins,m.sv,m.av,m.ov]∧p_=[]|1=>v_=.pointer (some ⟨b7,0+3,none⟩)∧p_=[]|2=>v_=m.ov∧p_=[]|3=>v_=elP m.ov ((0:Int).toNat*1)∧p_=[]|4=>v_=jI (m.os.getD 0 0)∧p_=[]|5=>(fun v' post=>∃(cv:Value) (rs:List CRow) (xs:List Int),v'=.tuple #[.agg #[jI m.cnt,cv],.bool true]∧post=[clE cv rs]∧cv.oneCell'=true∧NcOk m (m.os.getD 0 0) rs xs) v_ p_|6=>v_=.tuple #[.agg #[jI m.cnt,(ag9 1 (tp9 0 (gV9 vs_ 0)))],.bool true]∧p_=[]|7=>v_=.agg #[jI m.cnt,(ag9 1 (tp9 0 (gV9 vs_ 0)))]∧p_=[]|8=>v_=.bool true∧p_=[]|9=>IsBox #[jI 0,.slice none 0 0] 53 v_ p_|10=>p_=[boxE (blkOf (gV9 vs_ 2)) #[jI m.cnt,(ag9 1 (tp9 0 (gV9 vs_ 0)))] 53]|_=>True) [[],[],[1],[2],[3],[0,4],[5],[5,6],[5,6],[],[5,7]] [none,none,none,none,none,none,none,none,none,none,some 9] [] [0,1,2,3,4,5,6,7,8,10] 12 (List.take_append_drop 11 _).symm (by kernel_rfl) (by kernel_rfl) (by kernel_rfl) A A ?_ ?_
 refine⟨?_,?_,?_,?_,?_,?_,?_,?_,?_,?_,?_,trivial⟩
 intro vf pf hmu hR
 refine bL [] [] A (aW (aI [9] A) (List.sublist_append_right _ _) ?_)
 exact aT (aF (cs:=[jI m.ins,m.sv,m.av,m.ov]) A A A A A (aD 0 A 0 A))
 intro vf pf hmu hR
 refine bL [] [] A (bH (aI [9] A) ?_)
 exact aT (cQ 3 A A A)
 intro vf pf hmu hR
 have e1:=hR 1 (by decide)
 refine bL [1] [1] A (aW (sk 33 (congrArg some e1.1) (aB _)) (List.sublist_append_right _ _) ?_)
 exact aT (aN A A A (aH 0 A A))
 intro vf pf hmu hR
 have e2:=hR 2 (by decide)
 refine bL [2] [2] A (aW (sk 34 (congrArg some e2.1) (aB _)) (List.sublist_append_right _ _) ?_)
 exact aT (dF 1 A A A A (fun w hm=>(hpm w (hm.holds _ (bX (i:=1) A))).ou))
 intro vf pf hmu hR
 have e3:=hR 3 (by decide)
 refine bL [3] [3] A (aW (sk 35 (congrArg some e3.1) (aB _)) (List.sublist_append_right _ _) ?_)
 exact aT (bG (u:=jI (m.os.getD 0 0)) A A A (fun w hm=>(hpm w (hm.holds _ (bX (i:=1) A))).ou) (eS (show _<m.os.length by omega)))
 intro vf pf hmu hR
 have e0:=hR 0 (by decide)
 have e4:=hR 4 (by decide)
 refine bL [0,4] [0,4] A (aW (sk 32 (congrArg some e0.1) (sk 36 (congrArg some e4.1) (aB _))) (List.sublist_append_right _ _) ?_)
 exact aJ A A (fun w hm=>rK m (m.os.getD 0 0) w (hpm w (hm.holds _ (bX (i:=1) A))) hno hN.lit)
 intro vf pf hmu hR
 have e5:(fun v' post=>∃(cv:Value) (rs:List CRow) (xs:List Int),v'=.tuple #[.agg #[jI m.cnt,cv],.bool true]∧post=[clE cv rs]∧cv.oneCell'=true∧NcOk m (m.os.getD 0 0) rs xs) (vf 5) (pf 5):=hR 5 (by decide)
 obtain⟨v9,vE5⟩:∃x,vf 5=x:=⟨_,rfl⟩
 obtain⟨p10,pE5⟩:∃x,pf 5=x:=⟨_,rfl⟩
 have R11:=e5
 rw[vE5,pE5] at R11
 obtain⟨cv,rs,xs,rfl,rfl,hcv,hnc⟩:=R11
 refine bL [5] [5] A (bU (sk 37 (congrArg some vE5) (aB _)) (by simp only[pE5,vE5,fS]<;>rfl) ?_)
 exact cD (aT (aK A)) (fun _ _ h=>⟨h.1.trans (by show _=(.tuple #[.agg #[jI m.cnt,(ag9 1 (tp9 0 (vf 5)))],.bool true]:Value);first|(rw[vE5];done)|(rw[vE5];rfl)),h.2⟩)
 intro vf pf hmu hR
 have e5:(fun v' post=>∃(cv:Value) (rs:List CRow) (xs:List Int),v'=.tuple #[.agg #[jI m.cnt,cv],.bool true]∧post=[clE cv rs]∧cv.oneCell'=true∧NcOk m (m.os.getD 0 0) rs xs) (vf 5) (pf 5):=hR 5 (by decide)
 obtain⟨v9,vE5⟩:∃x,vf 5=x:=⟨_,rfl⟩
 obtain⟨p10,pE5⟩:∃x,pf 5=x:=⟨_,rfl⟩
 have R11:=e5
 rw[vE5,pE5] at R11
 obtain⟨cv,rs,xs,rfl,rfl,hcv,hnc⟩:=R11
 have e6:(vf 6)=.tuple #[.agg #[jI m.cnt,(ag9 1 (tp9 0 (vf 5)))],.bool true]∧(pf 6)=[]:=hR 6 (by decide)
 rw[vE5] at e6
 refine bL [5,6] [5,6] A (bU (sk 31 (congrArg some e6.1) (aB _)) (by simp only[pE5,vE5,e6.2,fS]<;>rfl) ?_)
 exact cD (aT (aK A)) (fun _ _ h=>⟨h.1.trans (by show _=(.agg #[jI m.cnt,(ag9 1 (tp9 0 (vf 5)))]:Value);first|(rw[vE5];done)|(rw[vE5];rfl)),h.2⟩)
 intro vf pf hmu hR
 have e5:(fun v' post=>∃(cv:Value) (rs:List CRow) (xs:List Int),v'=.tuple #[.agg #[jI m.cnt,cv],.bool true]∧post=[clE cv rs]∧cv.oneCell'=true∧NcOk m (m.os.getD 0 0) rs xs) (vf 5) (pf 5):=hR 5 (by decide)
 obtain⟨v9,vE5⟩:∃x,vf 5=x:=⟨_,rfl⟩
 obtain⟨p10,pE5⟩:∃x,pf 5=x:=⟨_,rfl⟩
 have R11:=e5
 rw[vE5,pE5] at R11
 obtain⟨cv,rs,xs,rfl,rfl,hcv,hnc⟩:=R11
 have e6:(vf 6)=.tuple #[.agg #[jI m.cnt,(ag9 1 (tp9 0 (vf 5)))],.bool true]∧(pf 6)=[]:=hR 6 (by decide)
 rw[vE5] at e6
 refine bL [5,6] [5,6] A (bU (sk 31 (congrArg some e6.1) (aB _)) (by simp only[pE5,vE5,e6.2,fS]<;>rfl) ?_)
 exact aT (aK A)
 intro vf pf hmu hR
 refine bL [] [] A (aW (aB _) (List.sublist_append_right _ _) ?_)
 exact bP (z:=.agg #[jI 0,.slice none 0 0]) A A
 intro vf pf hmu hR
 have e5:(fun v' post=>∃(cv:Value) (rs:List CRow) (xs:List Int),v'=.tuple #[.agg #[jI m.cnt,cv],.bool true]∧post=[clE cv rs]∧cv.oneCell'=true∧NcOk m (m.os.getD 0 0) rs xs) (vf 5) (pf 5):=hR 5 (by decide)
 obtain⟨v9,vE5⟩:∃x,vf 5=x:=⟨_,rfl⟩
 obtain⟨p10,pE5⟩:∃x,pf 5=x:=⟨_,rfl⟩
 have R11:=e5
 rw[vE5,pE5] at R11
 obtain⟨cv,rs,xs,rfl,rfl,hcv,hnc⟩:=R11
 have e7:(vf 7)=.agg #[jI m.cnt,(ag9 1 (tp9 0 (vf 5)))]∧(pf 7)=[]:=hR 7 (by decide)
 rw[vE5] at e7
 have e9:IsBox #[jI 0,.slice none 0 0] 53 (vf 9) (pf 9):=hR 9 (by decide)
 obtain⟨b12,vE9,pE9⟩:=e9
 refine Or.inl ⟨A,?_⟩
 show RunM _ _ _ (pf 9) (([5,7]:List Nat).flatMap pf++_) (envOf3 _ vf [5,7,9]++_) _ _
 rw[pE9]
 exact cV (sk 11 (congrArg some vE9) (sk 38 (congrArg some e7.1) (aB _))) (by simp only[pE5,vE5,e7.2,fS]<;>rfl) (fD (dR (us:=[jI m.cnt,cv]) (off:=0) 0 A A A A A A (aA A (aA hcv bA)) A A) (fun v_ p_ h=>by show p_=[boxE (blkOf (vf 9)) #[jI m.cnt,(ag9 1 (tp9 0 (vf 5)))] 53];rw[vE5,vE9];exact h))
 intro vf pf hmu hR
 have e5:(fun v' post=>∃(cv:Value) (rs:List CRow) (xs:List Int),v'=.tuple #[.agg #[jI m.cnt,cv],.bool true]∧post=[clE cv rs]∧cv.oneCell'=true∧NcOk m (m.os.getD 0 0) rs xs) (vf 5) (pf 5):=hR 5 (by decide)
 obtain⟨v9,vE5⟩:∃x,vf 5=x:=⟨_,rfl⟩
 obtain⟨p10,pE5⟩:∃x,pf 5=x:=⟨_,rfl⟩
 have R11:=e5
 rw[vE5,pE5] at R11
 obtain⟨cv,rs,xs,rfl,rfl,hcv,hnc⟩:=R11
 have e8:=hR 8 (by decide)
 have e9:IsBox #[jI 0,.slice none 0 0] 53 (vf 9) (pf 9):=hR 9 (by decide)
 obtain⟨b12,vE9,pE9⟩:=e9
 have e10:(pf 10)=[boxE (blkOf (vf 9)) #[jI m.cnt,(ag9 1 (tp9 0 (vf 5)))] 53]:=hR 10 (by decide)
 rw[vE5,vE9] at e10
 have pE10:=e10
 have q0:=hR 0 (by decide)
 have q1:=hR 1 (by decide)
 have q2:=hR 2 (by decide)
 have q3:=hR 3 (by decide)
 have q4:=hR 4 (by decide)
 have q6:=hR 6 (by decide)
 have q7:=hR 7 (by decide)
 have q8:=hR 8 (by decide)
 refine cE (bO [10,9,8,7,6,4,3,2,1,0] _ (sk 11 (congrArg some vE9) (sk 30 A (sk 39 (congrArg some e8.1) (aB _)))) A) (by simp only[pE5,vE5,pE10,q0.2,q1.2,q2.2,q3.2,q4.2,q6.2,q7.2,q8.2,fS]<;>rfl) ?_
 simp only[List.drop_succ_cons,List.drop_zero]
 refine aU 1 A (cF (aP A (aF (cs:=[jI m.cnt,cv]) A A A A A (aD 1 A 0 A)) (aM 1 A ?_)))
 refine eB A A A (aJ A A (fun w hm=>xT m.cnt cv rs m.fst.toNat m.gs.length w (Ew hno hnc hlt0 hlt1) (by omega) (by omega) hcv (yZ 0 A w hm))) ?_
 intro v13 p14 R15
 obtain⟨cd,u,q,bs,pr,rfl,rfl,hsr,hpr⟩:=R15
 have hsl:=Bb hsr
 refine aU 7 A (aC (bD 1 A (bE (cF ?_))))
 refine cM A A A A A A (fun h16=>?_) (fun h16=>?_)
 refine aU 1 A (aR A (bD 4 A ?_))
 refine aV (aQ ?_)
 refine aL (cY (fun w hm=>(yZ 0 A w hm).row.one) (fun hq1=>?_))
 refine aZ 8 [0] A A (by decide) ?_
 refine cB 1 A ?_
 exact bV (rs:=[.tmp 6,.tmp 7,.tmp 8]) (vs:=[jI 1,jI 0,q]) (post:=[bigE [clE q pr]]) A ⟨A,A,A,trivial⟩ A (dS A) ⟨_,1,0,q,pr,A,A,fun w hw=>Ge (aX hw cL),hq1,by omega,Gf hr hmi hnc hsr (by omega) (hpr (by omega))⟩
 refine aU 1 A (aS A (cF ?_))
 refine cM A A A A A A (fun h17=>?_) (fun h17=>?_)
 refine aU 1 A (aR A (bD 1 A (eP ?_)))
 refine aU 1 A (bE ?_)
 refine gT (α:=Nat) (β:=Int) [0,1,2,3,4,6,7,8,9,10,11,13,14,15,30,47,48,51] A (fun k y=>[clE q pr,rS9 4 1 u bs blC,clE cv rs,boxE b12 #[jI m.cnt,cv] 53,nB9 b7 m,bigE pm,nB9 b2 b,nB9 b1 a]) (fun k y=>[(16,jI y),(17,jI (k:Int))]) (fun k y=>(k:Int)≤m.ins∧y=bvB (litsL bs bs.length) k) (fun k y=>m.ins.toNat-k) 0 0 ⟨by omega,A⟩ (cT A) (dS A) ?_
 intro k y hi18
 obtain⟨hk,hq⟩:=hi18
 have hbr9:=rG (litsL bs bs.length) k
 rw[←hq] at hbr9
 have hp9:=sM (k:=k) (by omega)
 have he2:((k:Int)+1).toNat=1+k:=by omega
 refine aC (aC (bZ 1 A (aP A (cQ 0 A A A) (aP A (aN A A A (aH 4 A A)) ?_))))
 refine bQ A A A A A A (fun h19=>?_) (fun h19=>?_)
 refine bR (aR A (bY (fM (aC (bZ 2 A (aP A (dM A A A) (aP A (dF 1 A A A A (aG 1 A)) ?_)))))))
 refine aP A (bG (u:=.bool ((bs.getD (((k:Int)+1).toNat) bl0).b)) A A A (aG 1 A) (dG blC (fun r=>.bool r.b) (fun _=>A) bs bl0 (show((k:Int)+1).toNat<_ by omega))) (bW (fun h20=>?_) (fun h20=>?_))
 refine bR (aR A (bZ 2 A (aP A (tR A Tryz.underlying3 Tryz.underlying59 A (IntWalk.u64_in _ (by omega))) (aP A (fY (k:=.i64) (kk:=.u64) (r:=1*2 ^ k) A A A A (by omega) (lI (.inr A) (by omega))) (aP A (cP A (by decide) A A (r:=y+1*2 ^ k) (or_bv hbr9 (by omega))) (dJ 1 A (cK ?_)))))))
 refine bZ 1 A (aP A (dM A A A) (dJ 1 A ?_))
 exact cG (k+1) _ ⟨by omega,by rw[hq];exact bv_yes (by omega) (by rw[←he2];assumption)⟩ (by omega) (cT rfl) (dS rfl)
 refine bR (hH A (cK (bZ 1 A (aP A (dM A A A) (dJ 1 A ?_)))))
 exact cG (k+1) _ ⟨by omega,by rw[hq];exact bv_no (by omega) (by rw[←he2];assumption)⟩ (by omega) (cT rfl) (dS rfl)
 refine bR (aS A ?_)
 refine bM (dI ?_)
 refine aO (bF (bD 4 A ?_))
 refine aV (aQ ?_)
 refine aL ?_
 have hkm:k=m.ins.toNat:=by omega
 rw[hkm] at hq
 have hy16:=bv_16 (litsL bs bs.length) (k:=m.ins.toNat) (by omega)
 refine aZ 8 [] A A (by decide) ?_
 refine cZ [bigE []] eW ?_
 exact bV (rs:=[.tmp 6,.tmp 7,.tmp 8]) (vs:=[jI 2,jI y,.slice none 0 0]) (post:=[bigE []]) A ⟨A,A,A,trivial⟩ A (dS A) ⟨_,2,y,.slice none 0 0,[],A,A,fun w _=>Ej w,A,by omega,ceq_no hr hmi hnc hsr (by omega) hq⟩
 refine aU 1 A (hH A (cK (bD 3 A ?_)))
 refine aV ?_
 exfalso
 omega
 have hnone:=Option.isNone_iff_eq_none.1 (by simpa using h6)
 refine cR A (bP (z:=.agg #[jI 0,.slice none 0 0,.slice none 0 0,.slice none 0 0]) A A) ?_
 intro b21
 refine bI (cs':=#[jI m.ins,m.sv,m.av,m.ov]) (i:=0) (off:=0) (us:=[jI m.ins,m.sv,m.av,m.ov]) A A A A A A A (aA A (aA o1m (aA o2m (aA o3m bA)))) A A A (aU 1 A (aC (bD 7 A (aR A ?_))))
 refine bD 3 A ?_
 refine aV (aL ?_)
 refine aZ 4 [] A A (by decide) ?_
 refine cZ [bigE []] eW ?_
 exact bV (rs:=[.tmp 6,.tmp 7,.tmp 8]) (vs:=[jI 0,jI 0,.slice none 0 0]) (post:=[bigE []]) A ⟨A,A,A,trivial⟩ A (dS A) ⟨_,0,0,.slice none 0 0,[],A,A,fun w _=>Ej w,A,by omega,.bad hnone⟩
theorem rM (a b:Nt) (pr:List CRow) (pv:Value) (r:List An×Int) (w:World) (ra:RdsNt w a) (rb_:RdsNt w b) (hA:NtSm a) (hB:NtSm b) (hf8:a.fst≤8) (hp:RdsCl w pv pr) (hr:mtO a b=some r) (hP:MtPrf a r pr) :
   Calls Tryz.prog 11 #[.agg #[.int .i64 a.ins,a.sv,a.av,a.ov],.agg #[.int .i64 b.ins,b.sv,b.av,b.ov],pv] w (Ans w (.bool true)):=by
 refine bN (N:=31) (args:=[.agg #[jI a.ins,a.sv,a.av,a.ov],.agg #[jI b.ins,b.sv,b.av,b.ov],pv]) Tryz.func11 A A (cF ?_)
 refine cR A (cN A A) ?_
 intro b1
 refine cR A (cN A A) ?_
 intro b2
 refine aU 1 A (cF (aP A (aF (cs:=[jI a.ins,a.sv,a.av,a.ov]) A A A A A (aD 1 A 0 A)) (aP A (aF (cs:=[jI b.ins,b.sv,b.av,b.ov]) A A A A A (aD 0 A 0 A)) ?_)))
 refine eB A A A (aJ A A (fun w hm=>mS a b w (ra.below hm.bel) (rb_.below hm.bel) hA hB)) ?_
 intro v3 p4 R5
 obtain⟨pm,m,rfl,rfl,hpm,⟨o1m,o2m,o3m⟩,hmi⟩:=R5
 refine aM 3 rfl (bW (fun h6=>?_) (fun h6=>absurd (((show(mtO a b).isSome=true by rw[hr];rfl)).symm.trans h6) (by decide)))
 have hN:=hmi.net hr
 have hno:=hN.ok
 have hnl:=hN.ol
 have hmf:=hN.fst
 have hna:=hno.a1
 have hmc:=gI m
 have hni0:=hno.i0
 have hmfd:m.fst=1+m.ins+m.ss.length:=rfl
 obtain⟨hlt0,hlt1⟩:=id hN.lit
 refine cR A (bP (z:=.agg #[jI 0,.slice none 0 0,.slice none 0 0,.slice none 0 0]) A A) ?_
 intro b7
 refine bI (cs':=#[jI m.ins,m.sv,m.av,m.ov]) (i:=0) (off:=0) (us:=[jI m.ins,m.sv,m.av,m.ov]) A A A A A A A (aA A (aA o1m (aA o2m (aA o3m bA)))) A A A (aU 1 A (aC (bD 2 A (aS A (bY ?_)))))
 refine aC ?_
 refine eF (l:=[nB9 b7 m,bigE pm,nB9 b2 b,nB9 b1 a]) A 11 [0,1,2,3,4,5,6,7,8,9,10] (List.take 11 _) (List.drop 11 _) [[],[],[1],[2],[3],[0,4],[5],[5,6],[5,6],[],[5,7,9]] [some 20,some 21,some 22,some 23,some 24,some 25,some 19,some 26,some 27,some 9,none] (fun i_ vs_ v_ p_=>match i_ with|0=>v_=.agg #[jI m.ins,m.sv,m.av,m.ov]∧p_=[]|1=>v_=.pointer (some ⟨b7,0+3,none⟩)∧p_=[]|2=>v_=m.ov∧p_=[]|3=>v_=elP m.ov ((0:Int).toNat*1)∧p_=[]|4=>v_=jI (m.os.getD 0 0)∧p_=[]|5=>(fun v' post=>∃(cv:Value) (rs:List CRow) (xs:List Int),v'=.tuple #[.agg #[jI m.cnt,cv],.bool true]∧post=[clE cv rs]∧cv.oneCell'=true∧NcOk m (m.os.getD 0 0) rs xs) v_ p_|6=>v_=.tuple #[.agg #[jI m.cnt,(ag9 1 (tp9 0 (gV9 vs_ 0)))],.bool true]∧p_=[]|7=>v_=.agg #[jI m.cnt,(ag9 1 (tp9 0 (gV9 vs_ 0)))]∧p_=[]|8=>v_=.bool true∧p_=[]|9=>IsBox #[jI 0,.slice none 0 0] 53 v_ p_|10=>p_=[boxE (blkOf (gV9 vs_ 2)) #[jI m.cnt,(ag9 1 (tp9 0 (gV9 vs_ 0)))] 53]|_=>True) [[],[],[1],[2],[3],[0,4],[5],[5,6],[5,6],[],[5,7]] [none,none,none,none,none,none,none,none,none,none,some 9] [] [0,1,2,3,4,5,6,7,8,10] 12 (List.take_append_drop 11 _).symm (by kernel_rfl) (by kernel_rfl) (by kernel_rfl) A A ?_ ?_
 refine⟨?_,?_,?_,?_,?_,?_,?_,?_,?_,?_,?_,trivial⟩
 intro vf pf hmu hR
 refine bL [] [] A (aW (aI [7] A) (List.sublist_append_right _ _) ?_)
 exact aT (aF (cs:=[jI m.ins,m.sv,m.av,m.ov]) A A A A A (aD 0 A 0 A))
 intro vf pf hmu hR
 refine bL [] [] A (bH (aI [7] A) ?_)
 exact aT (cQ 3 A A A)
 intro vf pf hmu hR
 have e1:=hR 1 (by decide)
 refine bL [1] [1] A (aW (sk 21 (congrArg some e1.1) (aB _)) (List.sublist_append_right _ _) ?_)
 exact aT (aN A A A (aH 0 A A))
 intro vf pf hmu hR
 have e2:=hR 2 (by decide)
 refine bL [2] [2] A (aW (sk 22 (congrArg some e2.1) (aB _)) (List.sublist_append_right _ _) ?_)
 exact aT (dF 1 A A A A (fun w hm=>(hpm w (hm.holds _ (bX (i:=1) A))).ou))
 intro vf pf hmu hR
 have e3:=hR 3 (by decide)
 refine bL [3] [3] A (aW (sk 23 (congrArg some e3.1) (aB _)) (List.sublist_append_right _ _) ?_)
 exact aT (bG (u:=jI (m.os.getD 0 0)) A A A (fun w hm=>(hpm w (hm.holds _ (bX (i:=1) A))).ou) (eS (show _<m.os.length by omega)))
 intro vf pf hmu hR
 have e0:=hR 0 (by decide)
 have e4:=hR 4 (by decide)
 refine bL [0,4] [0,4] A (aW (sk 20 (congrArg some e0.1) (sk 24 (congrArg some e4.1) (aB _))) (List.sublist_append_right _ _) ?_)
 exact aJ A A (fun w hm=>rK m (m.os.getD 0 0) w (hpm w (hm.holds _ (bX (i:=1) A))) hno hN.lit)
 intro vf pf hmu hR
 have e5:(fun v' post=>∃(cv:Value) (rs:List CRow) (xs:List Int),v'=.tuple #[.agg #[jI m.cnt,cv],.bool true]∧post=[clE cv rs]∧cv.oneCell'=true∧NcOk m (m.os.getD 0 0) rs xs) (vf 5) (pf 5):=hR 5 (by decide)
 obtain⟨v8,vE5⟩:∃x,vf 5=x:=⟨_,rfl⟩
 obtain⟨p9,pE5⟩:∃x,pf 5=x:=⟨_,rfl⟩
 have R10:=e5
 rw[vE5,pE5] at R10
 obtain⟨cv,rs,xs,rfl,rfl,hcv,hnc⟩:=R10
 refine bL [5] [5] A (bU (sk 25 (congrArg some vE5) (aB _)) (by simp only[pE5,vE5,fS]<;>rfl) ?_)
 exact cD (aT (aK A)) (fun _ _ h=>⟨h.1.trans (by show _=(.tuple #[.agg #[jI m.cnt,(ag9 1 (tp9 0 (vf 5)))],.bool true]:Value);first|(rw[vE5];done)|(rw[vE5];rfl)),h.2⟩)
 intro vf pf hmu hR
 have e5:(fun v' post=>∃(cv:Value) (rs:List CRow) (xs:List Int),v'=.tuple #[.agg #[jI m.cnt,cv],.bool true]∧post=[clE cv rs]∧cv.oneCell'=true∧NcOk m (m.os.getD 0 0) rs xs) (vf 5) (pf 5):=hR 5 (by decide)
 obtain⟨v8,vE5⟩:∃x,vf 5=x:=⟨_,rfl⟩
 obtain⟨p9,pE5⟩:∃x,pf 5=x:=⟨_,rfl⟩
 have R10:=e5
 rw[vE5,pE5] at R10
 obtain⟨cv,rs,xs,rfl,rfl,hcv,hnc⟩:=R10
 have e6:(vf 6)=.tuple #[.agg #[jI m.cnt,(ag9 1 (tp9 0 (vf 5)))],.bool true]∧(pf 6)=[]:=hR 6 (by decide)
 rw[vE5] at e6
 refine bL [5,6] [5,6] A (bU (sk 19 (congrArg some e6.1) (aB _)) (by simp only[pE5,vE5,e6.2,fS]<;>rfl) ?_)
 exact cD (aT (aK A)) (fun _ _ h=>⟨h.1.trans (by show _=(.agg #[jI m.cnt,(ag9 1 (tp9 0 (vf 5)))]:Value);first|(rw[vE5];done)|(rw[vE5];rfl)),h.2⟩)
 intro vf pf hmu hR
 have e5:(fun v' post=>∃(cv:Value) (rs:List CRow) (xs:List Int),v'=.tuple #[.agg #[jI m.cnt,cv],.bool true]∧post=[clE cv rs]∧cv.oneCell'=true∧NcOk m (m.os.getD 0 0) rs xs) (vf 5) (pf 5):=hR 5 (by decide)
 obtain⟨v8,vE5⟩:∃x,vf 5=x:=⟨_,rfl⟩
 obtain⟨p9,pE5⟩:∃x,pf 5=x:=⟨_,rfl⟩
 have R10:=e5
 rw[vE5,pE5] at R10
 obtain⟨cv,rs,xs,rfl,rfl,hcv,hnc⟩:=R10
 have e6:(vf 6)=.tuple #[.agg #[jI m.cnt,(ag9 1 (tp9 0 (vf 5)))],.bool true]∧(pf 6)=[]:=hR 6 (by decide)
 rw[vE5] at e6
 refine bL [5,6] [5,6] A (bU (sk 19 (congrArg some e6.1) (aB _)) (by simp only[pE5,vE5,e6.2,fS]<;>rfl) ?_)
 exact aT (aK A)
 intro vf pf hmu hR
 refine bL [] [] A (aW (aB _) (List.sublist_append_right _ _) ?_)
 exact bP (z:=.agg #[jI 0,.slice none 0 0]) A A
 intro vf pf hmu hR
 have e5:(fun v' post=>∃(cv:Value) (rs:List CRow) (xs:List Int),v'=.tuple #[.agg #[jI m.cnt,cv],.bool true]∧post=[clE cv rs]∧cv.oneCell'=true∧NcOk m (m.os.getD 0 0) rs xs) (vf 5) (pf 5):=hR 5 (by decide)
 obtain⟨v8,vE5⟩:∃x,vf 5=x:=⟨_,rfl⟩
 obtain⟨p9,pE5⟩:∃x,pf 5=x:=⟨_,rfl⟩
 have R10:=e5
 rw[vE5,pE5] at R10
 obtain⟨cv,rs,xs,rfl,rfl,hcv,hnc⟩:=R10
 have e7:(vf 7)=.agg #[jI m.cnt,(ag9 1 (tp9 0 (vf 5)))]∧(pf 7)=[]:=hR 7 (by decide)
 rw[vE5] at e7
 have e9:IsBox #[jI 0,.slice none 0 0] 53 (vf 9) (pf 9):=hR 9 (by decide)
 obtain⟨b11,vE9,pE9⟩:=e9
 refine Or.inl ⟨A,?_⟩
 show RunM _ _ _ (pf 9) (([5,7]:List Nat).flatMap pf++_) (envOf3 _ vf [5,7,9]++_) _ _
 rw[pE9]
 exact cV (sk 9 (congrArg some vE9) (sk 26 (congrArg some e7.1) (aB _))) (by simp only[pE5,vE5,e7.2,fS]<;>rfl) (fD (dR (us:=[jI m.cnt,cv]) (off:=0) 0 A A A A A A (aA A (aA hcv bA)) A A) (fun v_ p_ h=>by show p_=[boxE (blkOf (vf 9)) #[jI m.cnt,(ag9 1 (tp9 0 (vf 5)))] 53];rw[vE5,vE9];exact h))
 intro vf pf hmu hR
 have e5:(fun v' post=>∃(cv:Value) (rs:List CRow) (xs:List Int),v'=.tuple #[.agg #[jI m.cnt,cv],.bool true]∧post=[clE cv rs]∧cv.oneCell'=true∧NcOk m (m.os.getD 0 0) rs xs) (vf 5) (pf 5):=hR 5 (by decide)
 obtain⟨v8,vE5⟩:∃x,vf 5=x:=⟨_,rfl⟩
 obtain⟨p9,pE5⟩:∃x,pf 5=x:=⟨_,rfl⟩
 have R10:=e5
 rw[vE5,pE5] at R10
 obtain⟨cv,rs,xs,rfl,rfl,hcv,hnc⟩:=R10
 have e8:=hR 8 (by decide)
 have e9:IsBox #[jI 0,.slice none 0 0] 53 (vf 9) (pf 9):=hR 9 (by decide)
 obtain⟨b11,vE9,pE9⟩:=e9
 have e10:(pf 10)=[boxE (blkOf (vf 9)) #[jI m.cnt,(ag9 1 (tp9 0 (vf 5)))] 53]:=hR 10 (by decide)
 rw[vE5,vE9] at e10
 have pE10:=e10
 have q0:=hR 0 (by decide)
 have q1:=hR 1 (by decide)
 have q2:=hR 2 (by decide)
 have q3:=hR 3 (by decide)
 have q4:=hR 4 (by decide)
 have q6:=hR 6 (by decide)
 have q7:=hR 7 (by decide)
 have q8:=hR 8 (by decide)
 refine cE (bO [8,7,6,4,3,2,1,0] _ (sk 9 (congrArg some vE9) (sk 18 A (sk 27 (congrArg some e8.1) (aB _)))) A) (by simp only[pE5,vE5,pE10,q0.2,q1.2,q2.2,q3.2,q4.2,q6.2,q7.2,q8.2,fS]<;>rfl) ?_
 simp only[List.drop_succ_cons,List.drop_zero]
 refine aU 1 A (cF (aP A (aF (cs:=[jI m.cnt,cv]) A A A A A (aD 1 A 0 A)) (aM 1 A ?_)))
 refine eB A A A (aJ A A (fun w hm=>rO m.cnt rs cv pr pv w (hnc.cl hno hlt0 hlt1) (yZ 0 A w hm) (hp.below hm.bel) (hP.at hr hmi hnc) (by have h9:=(hP.at hr hmi hnc).len;have h8:=congrArg List.length hnc.rs;rw[List.length_map,List.length_append,List.length_singleton] at h8;have h7:=pQ m xs xs.length (Nat.le_refl _);have h6:=hnc.cone.len;omega))) ?_
 intro v12 p13 R14
 obtain⟨rfl,rfl⟩:=R14
 refine aU 1 A ?_
 exact aV (cA A A A)
theorem lv_set {zs:List Int}{m m' x:Int}{j:Nat}(h:∀k,0≤zs.getD k 0∧zs.getD k 0≤m) (hm:m≤m') (hx:0≤x∧x≤m'):∀k,0≤(zs.set j x).getD k 0∧(zs.set j x).getD k 0≤m':=fun k=>by
  have hk:=h k
  by_cases e:j=k
  · subst e
    by_cases hj:j<zs.length
    · rw[List.getD_eq_getElem?_getD,List.getElem?_set_self hj];exact hx
    · rw[List.getD_eq_getElem?_getD,List.getElem?_eq_none (by rw[List.length_set];omega)];show 0≤(0:Int)∧(0:Int)≤m';omega
  · rw[List.getD_eq_getElem?_getD,List.getElem?_set_ne e,←List.getD_eq_getElem?_getD];omega
def CjI (zs:List Bl) (k M:Int):Prop:=(∃j:Nat,j<zs.length∧(zs.getD j bl0).b=true∧(j % 2=1∨(j:Int)≤2*k))∧MkLe zs M
theorem zD {zs:List Bl}{i j:Nat}{b:Bl}(hi:i<zs.length):((zs.set i b).getD j bl0)=if i=j then b else zs.getD j bl0:=by
  by_cases e:i=j
  · subst e;rw[if_pos rfl,List.getD_eq_getElem?_getD,List.getElem?_set_self hi];rfl
  · rw[if_neg e,List.getD_eq_getElem?_getD,List.getElem?_set_ne e,←List.getD_eq_getElem?_getD]
theorem CjI.start {c:Nat}{M:Int}(h0:0≤M) (hM:(2*M).toNat<c):CjI ((List.replicate c bl0).set (2*M).toNat ⟨true⟩) M (2*M):=by
  refine⟨⟨(2*M).toNat,by rw[List.length_set,List.length_replicate];exact hM,by rw[zD (by rw[List.length_replicate];exact hM),if_pos rfl],.inr (by omega)⟩,fun k hk=>?_⟩
  rw[zD (by rw[List.length_replicate];exact hM)] at hk
  split at hk
  · omega
  · rw [List.getD_eq_getElem?_getD] at hk
    by_cases hl:k<c
    · rw[List.getElem?_replicate,if_pos hl] at hk;cases hk
    · rw[List.getElem?_eq_none (by rw[List.length_replicate];omega)] at hk;cases hk
theorem CjI.yes {zs:List Bl}{k M a b:Int}(h:CjI zs k M) (hk:0≤k∧2*k≤M) (hl:(2*k).toNat<zs.length) (ha:0≤a∧a<2*k) (hb:0≤b∧b<2*k):CjI (((zs.set (2*k).toNat ⟨false⟩).set a.toNat ⟨true⟩).set b.toNat ⟨true⟩) (k-1) M:=by
  refine⟨⟨b.toNat,by rw[List.length_set,List.length_set,List.length_set];omega,by rw[zD (by rw[List.length_set,List.length_set];omega),if_pos rfl],by omega⟩,?_⟩
  exact((h.2.set (b:=⟨false⟩) (by omega)).set (by omega)).set (by omega)
theorem CjI.no {zs:List Bl}{k M:Int}(h:CjI zs k M) (hk:0≤k) (hn:(zs.getD (2*k).toNat bl0).b=false):CjI zs (k-1) M:=by
  obtain⟨⟨j,h1,h2,h3⟩,h4⟩:=h
  refine⟨⟨j,h1,h2,?_⟩,h4⟩
  rcases h3 with h3|h3
  · exact .inl h3
  · by_cases e : j = (2 * k).toNat
    · subst e;rw[hn] at h2;cases h2
    · omega
theorem rep0 {c k:Nat}:(List.replicate c (0:Int)).getD k 0=0:=by
  rw[List.getD_eq_getElem?_getD]
  by_cases h:k<c
  · rw[List.getElem?_replicate,if_pos h];rfl
  · rw[List.getElem?_eq_none (by rw[List.length_replicate];omega)];rfl
theorem rL (n:Nt) (w:World) (hr:RdsNt w n) (hn:NtOk n) :
   Calls Tryz.prog 72 #[.agg #[.int .i64 n.ins,n.sv,n.av,n.ov]] w (Ret w (fun u_ p_=>∃ls:List Int,p_=[rI9 3 u_ ls]∧ls.length=n.cnt.toNat)):=by
 have hi0:=hn.i0
 have hi1:=hn.i1
 have hs1:=hn.s1
 have ha1:=hn.a1
 have ho1:=hn.o1
 have hcnt:n.cnt=1+n.ins+n.ss.length+n.gs.length:=rfl
 have hfst:n.fst=1+n.ins+n.ss.length:=rfl
 refine bN (N:=48) (args:=[.agg #[jI n.ins,n.sv,n.av,n.ov]]) Tryz.func72 A A (cF ?_)
 refine cR A (cN A A) ?_
 intro b1
 refine aU 1 A (eP (aP A (aF (cs:=[jI n.ins,n.sv,n.av,n.ov]) A A A A A (aD 0 A 0 A)) ?_))
 refine dA A (aJ A A (fun w hm=>aY (eA n w (hr.below hm.bel) hn))) (aU 1 A (aS A (bY (cF (aP A (aF (cs:=[jI n.ins,n.sv,n.av,n.ov]) A A A A A (aD 0 A 0 A)) ?_)))))
 refine dA A (aJ A A (fun w hm=>aY (cS n w (hr.below hm.bel) hn))) (dP A (gN (z:=jI 0) (s:=1) (bytes:=8) (n:=(List.replicate n.cnt.toNat (0:Int)).length) (cs:=(mI (List.replicate n.cnt.toNat (0:Int)))) A Tryz.underlying26 A (by decide) A A (by first|(rw[List.length_replicate];done)|(rw[List.length_replicate];omega)) (by first|(rw[List.length_replicate];done)|(rw[List.length_replicate];omega)) (by rw[List.length_replicate];omega) (gY _)) ?_)
 intro g2
 refine aU 1 A (aC (bD 1 A (bE ?_)))
 refine gT (α:=Nat) (β:=List Int) [0,1,2,3,7] rfl (fun i zs=>[rI9 3 (.slice (some ⟨g2,0,none⟩) ((List.replicate n.cnt.toNat (0:Int)).length) ((List.replicate n.cnt.toNat (0:Int)).length)) zs,nB9 b1 n]) (fun i zs=>[(4,jI (i:Int))]) (fun i zs=>i≤n.gs.length∧zs.length=n.cnt.toNat∧∀k,0≤zs.getD k 0∧zs.getD k 0≤(i:Int)) (fun i zs=>n.gs.length-i) 0 _ ⟨Nat.zero_le _,List.length_replicate,fun k=>by rw[rep0];exact⟨Int.le_refl _,Int.le_refl _⟩⟩ (cT rfl) (dS rfl) ?_
 intro i zs hi3
 obtain⟨hi,hzl,hzr⟩:=hi3
 refine aC (aC (bZ 1 A (aP A (cQ 2 A A A) (aP A (aN A A A (aH 1 A A)) (aP A (bC A Tryz.underlying25 A (aE hr.an)) ?_)))))
 refine bQ A A A A A A (fun h4=>?_) (fun h4=>?_)
 refine bR (aR A (bY (fM ?_)))
 have ha:=hn.an i (by omega)
 unfold LtOk at ha
 have hz1:=hzr ((n.gs.getD i an0).a / 2).toNat
 have hz2:=hzr ((n.gs.getD i an0).b / 2).toNat
 refine cJ 28 [[],[],[1],[],[2,3],[],[],[6],[],[7,8],[9],[10],[11],[5,12],[13],[],[],[16],[],[17,18],[19],[20],[21],[15,22],[23],[14,24],[25],[0,4]] [19,20,21,22,23,24,25,26,27,28,29,30,31,32,33,34,35,36,37,38,39,40,41,42,43,44,45,46] [.slice (some ⟨g2,0,none⟩) ((List.replicate n.cnt.toNat (0:Int)).length) ((List.replicate n.cnt.toNat (0:Int)).length),.agg #[jI n.ins,n.sv,n.av,n.ov],jI n.fst,jI (i:Int),jI (n.fst+(i:Int)),.slice (some ⟨g2,0,none⟩) ((List.replicate n.cnt.toNat (0:Int)).length) ((List.replicate n.cnt.toNat (0:Int)).length),.pointer (some ⟨b1,0+2,none⟩),n.av,jI (i:Int),elP n.av ((i:Int).toNat*2),elP n.av ((i:Int).toNat*2+0),jI ((n.gs.getD i an0).a),jI (((n.gs.getD i an0).a) / 2),elP (.slice (some ⟨g2,0,none⟩) ((List.replicate n.cnt.toNat (0:Int)).length) ((List.replicate n.cnt.toNat (0:Int)).length)) ((((n.gs.getD i an0).a) / 2).toNat*1),jI (zs.getD ((((n.gs.getD i an0).a) / 2).toNat) 0),.slice (some ⟨g2,0,none⟩) ((List.replicate n.cnt.toNat (0:Int)).length) ((List.replicate n.cnt.toNat (0:Int)).length),.pointer (some ⟨b1,0+2,none⟩),n.av,jI (i:Int),elP n.av ((i:Int).toNat*2),elP n.av ((i:Int).toNat*2+1),jI ((n.gs.getD i an0).b),jI (((n.gs.getD i an0).b) / 2),elP (.slice (some ⟨g2,0,none⟩) ((List.replicate n.cnt.toNat (0:Int)).length) ((List.replicate n.cnt.toNat (0:Int)).length)) ((((n.gs.getD i an0).b) / 2).toNat*1),jI (zs.getD ((((n.gs.getD i an0).b) / 2).toNat) 0),jI (if zs.getD ((((n.gs.getD i an0).a) / 2).toNat) 0<zs.getD ((((n.gs.getD i an0).b) / 2).toNat) 0 then zs.getD ((((n.gs.getD i an0).b) / 2).toNat) 0 else zs.getD ((((n.gs.getD i an0).a) / 2).toNat) 0),jI (1+(if zs.getD ((((n.gs.getD i an0).a) / 2).toNat) 0<zs.getD ((((n.gs.getD i an0).b) / 2).toNat) 0 then zs.getD ((((n.gs.getD i an0).b) / 2).toNat) 0 else zs.getD ((((n.gs.getD i an0).a) / 2).toNat) 0)),elP (.slice (some ⟨g2,0,none⟩) ((List.replicate n.cnt.toNat (0:Int)).length) ((List.replicate n.cnt.toNat (0:Int)).length)) ((n.fst+(i:Int)).toNat*1)] (by kernel_rfl) A ?_ ?_
 exact⟨bK A (aK A) A,bK A (aF (cs:=[jI n.ins,n.sv,n.av,n.ov]) A A A A A (aD 1 A 0 A)) A,.inl ⟨A,aJ A A (fun w hm=>aY (dD n w (hr.below hm.bel) hn))⟩,bK A (aK A) A,bK A (dM A A A) A,bK A (aK A) A,bK A (cQ 2 A A A) A,bK A (aN A A A (aH 1 A A)) A,bK A (aK A) A,bK A (dF 2 A A A A (aE hr.an)) A,bK A (cC (k0:=0) A A A (aE hr.an) (by omega)) A,bK A (bG (u:=jI ((n.gs.getD i an0).a)) A A A (aE hr.an) ((dE anC 2 (fun _=>A) n.gs an0 (show i<_ by omega) (by decide)).trans A)) A,bK A (fF A A A (by refine⟨?_,?_,?_⟩<;>omega)) A,bK A (dF 1 A A A A (aG 0 A)) A,bK A (rR A A A (aG 0 A)) A,bK A (aK A) A,bK A (cQ 2 A A A) A,bK A (aN A A A (aH 1 A A)) A,bK A (aK A) A,bK A (dF 2 A A A A (aE hr.an)) A,bK A (cC (k0:=1) A A A (aE hr.an) (by omega)) A,bK A (bG (u:=jI ((n.gs.getD i an0).b)) A A A (aE hr.an) ((dE anC 2 (fun _=>A) n.gs an0 (show i<_ by omega) (by decide)).trans A)) A,bK A (fF A A A (by refine⟨?_,?_,?_⟩<;>omega)) A,bK A (dF 1 A A A A (aG 0 A)) A,bK A (rR A A A (aG 0 A)) A,bK A (tP A A A) A,bK A (dM A A A) A,bK A (dF 1 A A A A (aG 0 A)) A,trivial⟩
 simp only[List.drop_succ_cons,List.drop_zero]
 refine eN (i:=0) (n':=(zs.set ((n.fst+(i:Int)).toNat) (1+(if zs.getD ((((n.gs.getD i an0).a) / 2).toNat) 0<zs.getD ((((n.gs.getD i an0).b) / 2).toNat) 0 then zs.getD ((((n.gs.getD i an0).b) / 2).toNat) 0 else zs.getD ((((n.gs.getD i an0).a) / 2).toNat) 0))).length) (xs':=((zs.set ((n.fst+(i:Int)).toNat) (1+(if zs.getD ((((n.gs.getD i an0).a) / 2).toNat) 0<zs.getD ((((n.gs.getD i an0).b) / 2).toNat) 0 then zs.getD ((((n.gs.getD i an0).b) / 2).toNat) 0 else zs.getD ((((n.gs.getD i an0).a) / 2).toNat) 0))).map (Value.int .i64))) A A A A A A A A (by first|omega|(simp only[List.length_set];omega)) List.length_set.symm (fB _ _ _) A (dB (cK (bZ 1 A (aP A (dM A A A) (dJ 1 A ?_)))))
 exact cG (i+1) (zs.set ((n.fst+(i:Int)).toNat) (1+(if zs.getD ((((n.gs.getD i an0).a) / 2).toNat) 0<zs.getD ((((n.gs.getD i an0).b) / 2).toNat) 0 then zs.getD ((((n.gs.getD i an0).b) / 2).toNat) 0 else zs.getD ((((n.gs.getD i an0).a) / 2).toNat) 0))) ⟨by omega,by rw[List.length_set];exact hzl,lv_set hzr (by omega) (by split<;>omega)⟩ (by omega) (cT rfl) (dS rfl)
 refine bR (aS A ?_)
 refine bM (dI ?_)
 refine aO (bF (bD 2 A ?_))
 exact aV (dX (post:=[rI9 3 (.slice (some ⟨g2,0,none⟩) ((List.replicate n.cnt.toNat (0:Int)).length) ((List.replicate n.cnt.toNat (0:Int)).length)) zs]) A A (eJ [0] A) ⟨_,A,hzl⟩)
theorem tH (n:Nt) (node:Int) (w:World) (hr:RdsNt w n) (hn:NtOk n) (hnd:n.fst≤node∧node<n.cnt) :
   Calls Tryz.prog 70 #[.agg #[.int .i64 n.ins,n.sv,n.av,n.ov],.int .i64 node] w (Ret w (fun u_ p_=>∃ys:List Int,p_=[rI9 3 u_ ys]∧(∀y∈ys,0≤y∧y≤2*node)∧1≤ys.length∧ys.length≤1000)):=by
 have hi0:=hn.i0
 have hi1:=hn.i1
 have hs1:=hn.s1
 have ha1:=hn.a1
 have ho1:=hn.o1
 have hcnt:n.cnt=1+n.ins+n.ss.length+n.gs.length:=rfl
 have hfst:n.fst=1+n.ins+n.ss.length:=rfl
 refine bN (N:=82) (args:=[.agg #[jI n.ins,n.sv,n.av,n.ov],jI node]) Tryz.func70 A A (cF ?_)
 refine cR A (cN A A) ?_
 intro b1
 refine aU 1 A (cF ?_)
 refine dP A (dH (s:=1) A Tryz.underlying26 A) ?_
 intro g2
 refine aU 1 A (eP (aP A (aF (cs:=[jI n.ins,n.sv,n.av,n.ov]) A A A A A (aD 1 A 0 A)) ?_))
 refine dA A (aJ A A (fun w hm=>aY (eA n w (hr.below hm.bel) hn))) (aM 3 A (aP A (aF (cs:=[jI n.ins,n.sv,n.av,n.ov]) A A A A A (aD 1 A 0 A)) ?_))
 refine dA A (aJ A A (fun w hm=>aY (dD n w (hr.below hm.bel) hn))) (bQ A A A A A A (fun h3=>absurd h3 (by omega)) (fun h3=>?_))
 refine aM 3 A (aP A (aF (cs:=[jI n.ins,n.sv,n.av,n.ov]) A A A A A (aD 1 A 0 A)) ?_)
 refine dA A (aJ A A (fun w hm=>aY (cS n w (hr.below hm.bel) hn))) (gO A A A A A A (fun h4=>absurd h4 (by omega)) (fun h4=>?_))
 refine aU 1 A (aS A (bY (cF (aP A (aF (cs:=[jI n.ins,n.sv,n.av,n.ov]) A A A A A (aD 1 A 0 A)) ?_))))
 refine dA A (aJ A A (fun w hm=>aY (cS n w (hr.below hm.bel) hn))) (aP A (fO A A A (by constructor<;>omega)) ?_)
 refine dP A (gN (z:=.bool false) (s:=1) (bytes:=1) (n:=(List.replicate (2*n.cnt).toNat bl0).length) (cs:=((List.replicate (2*n.cnt).toNat bl0).flatMap blC)) A Tryz.underlying56 A (by decide) A A (by first|(rw[List.length_replicate];done)|(rw[List.length_replicate];omega)) (by first|(rw[List.length_replicate];done)|(rw[List.length_replicate];omega)) (by rw[List.length_replicate];omega) (jL blC 1 (fun _=>A) bl0 _ A (2*n.cnt).toNat)) ?_
 intro g5
 refine aU 1 A (cF ?_)
 have hrl:(List.replicate (2*n.cnt).toNat bl0).length=(2*n.cnt).toNat:=List.length_replicate
 refine aM 2 A (aP A (fO A A A (by constructor<;>omega)) (aP A (dF 1 A A A A (aG 0 A)) ?_))
 refine eN (i:=0) (n':=((List.replicate (2*n.cnt).toNat bl0).set ((2*node).toNat) { (List.replicate (2*n.cnt).toNat bl0).getD ((2*node).toNat) bl0 with b:=true }).length) A A A A A A A A (by first|omega|(simp only[List.length_set];omega)) List.length_set.symm (fV blC (fun r=>.bool r.b) (fun _=>A) _ ({ (List.replicate (2*n.cnt).toNat bl0).getD ((2*node).toNat) bl0 with b:=true }) A) A (bR (aC (bD 2 A (bE ?_))))
 refine gT (α:=Int) (β:=List Bl) [0,1,2,4,5,6,25] rfl (fun kv zs=>[rS9 4 1 (.slice (some ⟨g5,0,none⟩) ((List.replicate (2*n.cnt).toNat bl0).length) ((List.replicate (2*n.cnt).toNat bl0).length)) zs blC,rowE 3 1 (.slice (some ⟨g2,0,none⟩) 0 0) 0 ([]),nB9 b1 n]) (fun kv zs=>[(7,jI kv)]) (fun kv zs=>n.fst-1≤kv∧kv≤node∧zs.length=(2*n.cnt).toNat∧CjI zs kv (2*node)) (fun kv zs=>(kv+1).toNat) node _ ⟨by omega,by omega,by rw[List.length_set,List.length_replicate],.start (by omega) (by omega)⟩ (cT rfl) (dS rfl) ?_
 intro kv zs hi6
 obtain⟨hk1,hk2,hzl,hcj⟩:=hi6
 refine aC (aC (bZ 1 A (aP A (aF (cs:=[jI n.ins,n.sv,n.av,n.ov]) A A A A A (aD 2 A 0 A)) ?_)))
 refine dA A (aJ A A (fun w hm=>aY (dD n w (hr.below hm.bel) hn))) (gO A A A A A A (fun h7=>?_) (fun h7=>?_))
 refine bR (aR A (bY (fM (aC (bZ 2 A (aP A (fO A A A (by constructor<;>omega)) (aP A (dF 1 A A A A (aG 0 A)) ?_)))))))
 refine aP A (bG (u:=.bool ((zs.getD ((2*kv).toNat) bl0).b)) A A A (aG 0 A) (dG blC (fun r=>.bool r.b) (fun _=>A) zs bl0 (show(2*kv).toNat<_ by omega))) (bW (fun h8=>?_) (fun h8=>?_))
 have hmk:=h8
 refine bR (aR A (aC ?_))
 have ha:=hn.an (kv-n.fst).toNat (by omega)
 unfold LtOk at ha
 rw[Int.toNat_of_nonneg (by omega)] at ha
 have hls:(zs.set (2*kv).toNat (⟨false⟩:Bl)).length=zs.length:=List.length_set
 refine eV A 9 [0,1,2,3,4,5,6,7,8] (List.take 9 _) (List.drop 9 _) [[],[0],[],[],[3],[2,4],[1,5],[6],[]] [47,48,49,50,51,52,53,54,8] (fun i_ vs_ v_ p_=>match i_ with|0=>v_=.pointer (some ⟨b1,0+2,none⟩)∧p_=[]|1=>v_=n.av∧p_=[]|2=>v_=jI kv∧p_=[]|3=>v_=.agg #[jI n.ins,n.sv,n.av,n.ov]∧p_=[]|4=>v_=jI n.fst∧p_=[]|5=>v_=jI (kv-n.fst)∧p_=[]|6=>v_=elP n.av ((kv-n.fst).toNat*2)∧p_=[]|7=>v_=.agg #[jI ((n.gs.getD ((kv-n.fst).toNat) an0).a),jI ((n.gs.getD ((kv-n.fst).toNat) an0).b)]∧p_=[]|8=>IsBox #[jI 0,jI 0] 67 v_ p_|_=>True) (List.take_append_drop 9 _).symm (by kernel_rfl) (by kernel_rfl) A A ?_ ?_
 refine⟨?_,?_,?_,?_,?_,?_,?_,?_,?_,trivial⟩
 intro vf pf hR
 exact fX A (aI [2] A) (aT (cQ 2 A A A))
 intro vf pf hR
 have e0:=hR 0 (by decide)
 exact eZ A (sk 47 (congrArg some e0.1) (aB _)) (aT (aN A A A (aH 2 A A)))
 intro vf pf hR
 exact fX A (aI [7] A) (aT (aK A))
 intro vf pf hR
 exact eZ A (aI [2] A) (aT (aF (cs:=[jI n.ins,n.sv,n.av,n.ov]) A A A A A (aD 2 A 0 A)))
 intro vf pf hR
 have e3:=hR 3 (by decide)
 exact eZ A (sk 50 (congrArg some e3.1) (aB _)) (aJ A A (fun w hm=>aY (dD n w (hr.below hm.bel) hn)))
 intro vf pf hR
 have e2:=hR 2 (by decide)
 have e4:=hR 4 (by decide)
 exact fX A (sk 49 (congrArg some e2.1) (sk 51 (congrArg some e4.1) (aB _))) (aT (iM A A A))
 intro vf pf hR
 have e1:=hR 1 (by decide)
 have e5:=hR 5 (by decide)
 exact eZ A (sk 48 (congrArg some e1.1) (sk 52 (congrArg some e5.1) (aB _))) (aT (dF 2 A A A A (aE hr.an)))
 intro vf pf hR
 have e6:=hR 6 (by decide)
 exact eZ A (sk 53 (congrArg some e6.1) (aB _)) (aT (eI (us:=[jI ((n.gs.getD ((kv-n.fst).toNat) an0).a),jI ((n.gs.getD ((kv-n.fst).toNat) an0).b)]) A A A A (aE hr.an) (by omega) A (fC anC 2 (fun _=>A) n.gs an0 (show(kv-n.fst).toNat<_ by omega) A)))
 intro vf pf hR
 exact eZ A (aB _) (bP (z:=.agg #[jI 0,jI 0]) A A)
 intro vf pf hR
 have e7:=hR 7 (by decide)
 have e8:IsBox #[jI 0,jI 0] 67 (vf 8) (pf 8):=hR 8 (by decide)
 obtain⟨b9,vE8,pE8⟩:=e8
 have q0:=hR 0 (by decide)
 have q1:=hR 1 (by decide)
 have q2:=hR 2 (by decide)
 have q3:=hR 3 (by decide)
 have q4:=hR 4 (by decide)
 have q5:=hR 5 (by decide)
 have q6:=hR 6 (by decide)
 have q7:=hR 7 (by decide)
 refine cE (bO [7,6,5,4,2,1,0] _ (sk 8 (congrArg some vE8) (bO [46,39,25] _ (sk 54 (congrArg some e7.1) (aB _)) A)) A) (by simp only[pE8,vE8,q0.2,q1.2,q2.2,q3.2,q4.2,q5.2,q6.2,q7.2,fS]<;>rfl) ?_
 simp only[List.drop_succ_cons,List.drop_zero]
 refine bI (cs':=#[jI ((n.gs.getD ((kv-n.fst).toNat) an0).a),jI ((n.gs.getD ((kv-n.fst).toNat) an0).b)]) (i:=0) (off:=0) (us:=[jI ((n.gs.getD ((kv-n.fst).toNat) an0).a),jI ((n.gs.getD ((kv-n.fst).toNat) an0).b)]) A A A A A A A (aA A (aA A bA)) A A A (bR (aC (bZ 2 A (aP A (fO A A A (by constructor<;>omega)) (aP A (dF 1 A A A A (aG 1 A)) ?_)))))
 refine eN (i:=1) (n':=(zs.set ((2*kv).toNat) { zs.getD ((2*kv).toNat) bl0 with b:=false }).length) A A A A A A A A (by first|omega|(simp only[List.length_set];omega)) List.length_set.symm (fV blC (fun r=>.bool r.b) (fun _=>A) _ ({ zs.getD ((2*kv).toNat) bl0 with b:=false }) A) A (bR (aC (bZ 1 A (aP A (cQ 0 A A A) (aP A (aN A A A (aH 0 A A)) (aP A (dF 1 A A A A (aG 1 A) (by omega) (by first|omega|(simp only[List.length_set];omega))) ?_))))))
 refine eN (i:=1) (n':=((zs.set ((2*kv).toNat) { zs.getD ((2*kv).toNat) bl0 with b:=false }).set (((n.gs.getD ((kv-n.fst).toNat) an0).a).toNat) { (zs.set ((2*kv).toNat) { zs.getD ((2*kv).toNat) bl0 with b:=false }).getD (((n.gs.getD ((kv-n.fst).toNat) an0).a).toNat) bl0 with b:=true }).length) A A A A A A A A (by first|omega|(simp only[List.length_set];omega)) List.length_set.symm (fV blC (fun r=>.bool r.b) (fun _=>A) _ ({ (zs.set ((2*kv).toNat) { zs.getD ((2*kv).toNat) bl0 with b:=false }).getD (((n.gs.getD ((kv-n.fst).toNat) an0).a).toNat) bl0 with b:=true }) A) A (bR (bZ 1 A (aP A (cQ 1 A A A) (aP A (aN A A A (aH 0 A A)) (aP A (dF 1 A A A A (aG 1 A) (by omega) (by first|omega|(simp only[List.length_set];omega))) ?_)))))
 refine eN (i:=1) (n':=(((zs.set ((2*kv).toNat) { zs.getD ((2*kv).toNat) bl0 with b:=false }).set (((n.gs.getD ((kv-n.fst).toNat) an0).a).toNat) { (zs.set ((2*kv).toNat) { zs.getD ((2*kv).toNat) bl0 with b:=false }).getD (((n.gs.getD ((kv-n.fst).toNat) an0).a).toNat) bl0 with b:=true }).set (((n.gs.getD ((kv-n.fst).toNat) an0).b).toNat) { ((zs.set ((2*kv).toNat) { zs.getD ((2*kv).toNat) bl0 with b:=false }).set (((n.gs.getD ((kv-n.fst).toNat) an0).a).toNat) { (zs.set ((2*kv).toNat) { zs.getD ((2*kv).toNat) bl0 with b:=false }).getD (((n.gs.getD ((kv-n.fst).toNat) an0).a).toNat) bl0 with b:=true }).getD (((n.gs.getD ((kv-n.fst).toNat) an0).b).toNat) bl0 with b:=true }).length) A A A A A A A A (by first|omega|(simp only[List.length_set];omega)) List.length_set.symm (fV blC (fun r=>.bool r.b) (fun _=>A) _ ({ ((zs.set ((2*kv).toNat) { zs.getD ((2*kv).toNat) bl0 with b:=false }).set (((n.gs.getD ((kv-n.fst).toNat) an0).a).toNat) { (zs.set ((2*kv).toNat) { zs.getD ((2*kv).toNat) bl0 with b:=false }).getD (((n.gs.getD ((kv-n.fst).toNat) an0).a).toNat) bl0 with b:=true }).getD (((n.gs.getD ((kv-n.fst).toNat) an0).b).toNat) bl0 with b:=true }) A) A ?_
 refine dB (cK (bZ 1 A (aP A (iM A A A) (dJ 1 A ?_))))
 exact cG (kv-1) (((zs.set ((2*kv).toNat) { zs.getD ((2*kv).toNat) bl0 with b:=false }).set (((n.gs.getD ((kv-n.fst).toNat) an0).a).toNat) { (zs.set ((2*kv).toNat) { zs.getD ((2*kv).toNat) bl0 with b:=false }).getD (((n.gs.getD ((kv-n.fst).toNat) an0).a).toNat) bl0 with b:=true }).set (((n.gs.getD ((kv-n.fst).toNat) an0).b).toNat) { ((zs.set ((2*kv).toNat) { zs.getD ((2*kv).toNat) bl0 with b:=false }).set (((n.gs.getD ((kv-n.fst).toNat) an0).a).toNat) { (zs.set ((2*kv).toNat) { zs.getD ((2*kv).toNat) bl0 with b:=false }).getD (((n.gs.getD ((kv-n.fst).toNat) an0).a).toNat) bl0 with b:=true }).getD (((n.gs.getD ((kv-n.fst).toNat) an0).b).toNat) bl0 with b:=true }) ⟨by omega,by omega,by first|exact hzl|(rw[List.length_set,List.length_set,List.length_set];exact hzl),hcj.yes (by omega) (by omega) (by omega) (by omega)⟩ (by omega) (cT A) (eJ [1,0,0] A)
 have hmk:=h8
 refine bR (hH A (cK (bZ 1 A (aP A (iM A A A) (dJ 1 A ?_)))))
 exact cG (kv-1) zs ⟨by omega,by omega,by first|exact hzl|(rw[List.length_set,List.length_set,List.length_set];exact hzl),hcj.no (by omega) hmk⟩ (by omega) (cT A) (dS A)
 refine bR (aS A ?_)
 refine bM (dI ?_)
 refine aO (bF (aC (bD 1 A (bE ?_))))
 refine iC (α:=Nat) (β:=Value) (γ:=List Int) [0,1,2,4,6,25,39] A (fun l u xs=>[rS9 4 1 (.slice (some ⟨g5,0,none⟩) ((List.replicate (2*n.cnt).toNat bl0).length) ((List.replicate (2*n.cnt).toNat bl0).length)) zs blC,rI9 3 u xs,nB9 b1 n]) (fun l u xs=>[(5,u),(9,jI (l:Int))]) (fun l u xs=>l≤zs.length∧(∀y∈xs,0≤y∧y≤2*node)∧xs.length≤l∧∀j,j<l→(zs.getD j bl0).b=true→1≤xs.length) (fun l u xs=>zs.length-l) 0 _ [] ⟨Nat.zero_le _,(fun y hy=>by cases hy),Nat.le_refl _,fun j hj=>absurd hj (Nat.not_lt_zero _)⟩ (cT A) (dS A) ?_
 intro l u xs hi10
 obtain⟨hl,hxr,hxl,hxn⟩:=hi10
 refine aC (aC (bZ 2 A (aP A (bC A Tryz.underlying56 A (aG 0 A)) ?_)))
 refine bQ A A A A A A (fun h11=>?_) (fun h11=>?_)
 refine bR (aR A (bY (fM (aC (bZ 2 A (aP A (dF 1 A A A A (aG 0 A)) ?_))))))
 refine aP A (bG (u:=.bool ((zs.getD l bl0).b)) A A A (aG 0 A) (dG blC (fun r=>.bool r.b) (fun _=>A) zs bl0 (show l<_ by omega))) (bW (fun h12=>?_) (fun h12=>?_))
 have hmk:=h12
 refine bR (aR A (bZ 2 A ?_))
 refine dP A (bB (z:=jI 0) (s:=1) (cs:=(mI [(l:Int)])) A Tryz.underlying26 A (by decide) A (by kernel_rfl) A) ?_
 intro g13
 refine cW (i:=2) (z:=jI 0) (bytes:=8) A A A A Tryz.underlying26 (by kernel_rfl) A A A A (aG 0 A) (cO _) (by first|omega|(simp;done)|(simp;omega)) (cH xs ([(l:Int)])) (dL xs ([(l:Int)])) (fun _=>A) ?_
 intro v14
 refine dJ 1 A (cK (bZ 1 A (aP A (dM A A A) (dJ 1 A ?_))))
 exact cI (l+1) v14 (xs++([(l:Int)])) ⟨by omega,fun y hy=>by(rcases List.mem_append.1 hy with hy|hy;exact hxr y hy;rw[List.mem_singleton] at hy;subst hy;have h9:=hcj.2 l hmk;omega),by rw[List.length_append,List.length_singleton];omega,fun j hj hb=>by rw[List.length_append,List.length_singleton];omega⟩ (by omega) (cT rfl) (eJ [1,0,0] rfl)
 have hmk:=h12
 refine bR (hH A (cK (bZ 1 A (aP A (dM A A A) (dJ 1 A ?_)))))
 exact cI (l+1) u xs ⟨by omega,hxr,by omega,fun j hj hb=>by by_cases e9:j=l;(subst e9;rw[hmk] at hb;cases hb);exact hxn j (by omega) hb⟩ (by omega) (cT rfl) (dS rfl)
 refine bR (aS A ?_)
 refine bM (dI ?_)
 refine aO (bF (bD 2 A ?_))
 exact aV (dX (post:=[rI9 3 u xs]) A A (eJ [1] A) ⟨_,A,hxr,(by obtain⟨j,h1,h2, -⟩:=hcj.1;exact hxn j (by omega) h2),by omega⟩)
theorem mP (xs ls:List Int) (lit:Int) (v u:Value) (w:World) (hv:RdsW w v 1 xs.length (xs.map (Value.int .i64))) (hu:RdsW w u 1 ls.length (ls.map (Value.int .i64))) (hx:∀x∈xs,LtOk x ls.length) (hlit:LtOk lit ls.length) (hl9:ls.length≤100000) (hx9:xs.length≤100000) :
   Calls Tryz.prog 73 #[v,u,.int .i64 lit] w (Ret w (fun u_ p_=>∃ys:List Int,p_=[rI9 3 u_ ys]∧(∀y∈ys,y∈xs∨y=lit)∧1≤ys.length∧ys.length≤xs.length+1)):=by
 refine bN (N:=79) (args:=[v,u,jI lit]) Tryz.func73 A A (bD 1 A (cF ?_))
 refine dP A (dH (s:=1) A Tryz.underlying26 A) ?_
 intro g1
 refine aU 1 A (bD 1 A (aC (aC (bZ 1 A ?_))))
 refine bR (bE ?_)
 refine oP (α:=Nat) (β:=List Int) (γ:=Value) (δ:=Bool) [0,1,2,6] A (fun i zs gu d=>[rI9 3 gu zs]) (fun i zs gu d=>[(7,gu),(8,.bool d),(9,jI (i:Int))]) (fun i zs gu d=>i≤xs.length∧zs.length≤i+1∧(d=false→zs.length=i)∧(d=true→1≤zs.length)∧∀y∈zs,y∈xs∨y=lit) (fun i zs gu d=>xs.length-i) 0 [] _ false ⟨Nat.zero_le _,Nat.zero_le _,fun _=>A,(fun h=>by cases h),fun y hy=>by cases hy⟩ (cT A) (dS A) ?_
 intro i zs gu d hi2
 obtain⟨hi,hz1,hz2,hz3,hz4⟩:=hi2
 refine aC (aC (bZ 2 A (aP A (bC A Tryz.underlying26 A (aE hv)) ?_)))
 refine bQ A A A A A A (fun h3=>?_) (fun h3=>?_)
 refine bR (aR A (bY (fM (aC (aC (bZ 2 A (aP A (dF 1 A A A A (aE hv)) (aP A (hC A A A (aE hv)) ?_))))))))
 refine aM 1 A (cM A A A A A A (fun h4=>?_) (fun h4=>?_))
 refine bR (aR A (cF ?_))
 refine dP A (dH (s:=1) A Tryz.underlying26 A) ?_
 intro g5
 refine aM 1 A (cW (i:=0) (z:=jI 0) (bytes:=8) (n':=xs.length) (xs':=(mI xs)) A A A A Tryz.underlying26 (by kernel_rfl) A A A A (aE hv) (cO _) (by first|omega|(simp;done)|(simp;omega)) (Nat.zero_add _) (List.nil_append _) (fun _=>A) ?_)
 intro v6
 refine aU 1 A ?_
 refine aV (aL ?_)
 refine aQ (fL ?_)
 refine aQ (aL ?_)
 exact dX (post:=[rI9 3 v6 xs]) A A (eJ [0] A) ⟨_,A,fun y hy=>.inl hy,by omega,by omega⟩
 refine bR (aS A (bY (cF ?_)))
 have hxi:=hx _ (bS (d:=(0:Int)) (show i<xs.length by omega))
 unfold LtOk at hxi hlit
 refine aM 3 A (aP A (dF 1 A A A A (aE hv)) (aP A (hC A A A (aE hv)) ?_))
 refine aP A (fF A A A (by refine⟨?_,?_,?_⟩<;>omega)) ?_
 refine aP A (dF 1 A A A A (aE hu)) (aP A (rR A A A (aE hu)) (aU 1 A (aC (bZ 2 A ?_))))
 refine aP A (fF A A A (by refine⟨?_,?_,?_⟩<;>omega)) ?_
 refine aP A (dF 1 A A A A (aE hu)) (aP A (rR A A A (aE hu)) (aU 1 A ?_))
 refine lP (α:=List Int) (β:=Value) (γ:=Bool) (fun ys yu yd=>[rI9 3 yu ys]) (fun ys yu yd=>[(0,v),(1,u),(2,jI lit),(6,.slice none 0 0),(7,yu),(8,.bool yd),(9,jI (i:Int)),(10,jI (ls.getD (((xs.getD i 0) / 2).toNat) 0)),(11,jI (ls.getD ((lit / 2).toNat) 0)),(16,.bool true),(24,.bool false)]) (fun ys yu yd=>ys.length≤i+1∧(yd=false→ys.length=i)∧(yd=true→1≤ys.length)∧∀y∈ys,y∈xs∨y=lit) ?_ ?_
 refine aC (bZ 1 A ?_)
 refine bW (fun h7=>?_) (fun h7=>?_)
 have hd9:=h7
 skip
 refine aU 19 A (hH A ?_)
 exact gC zs gu d ⟨hz1,hz2,hz3,hz4⟩ (cT A) (dS A)
 have hd9:=h7
 skip
 refine aM 4 A (bQ A A A A A A (fun h8=>?_) (fun h8=>?_))
 refine aU 14 A (aR A (aC (bZ 2 A ?_)))
 refine dP A (bB (z:=jI 0) (s:=1) (cs:=(mI [lit])) A Tryz.underlying26 A (by decide) A (by kernel_rfl) A) ?_
 intro g9
 refine cW (i:=1) (z:=jI 0) (bytes:=8) A A A A Tryz.underlying26 (by kernel_rfl) A A A A (aG 0 A) (cO _) (by first|omega|(simp;done)|(simp;omega)) (cH zs ([lit])) (dL zs ([lit])) (fun _=>A) ?_
 intro v10
 refine aU 1 A (bJ (dJ 1 A ?_))
 exact gC (zs++([lit])) v10 true ⟨by have h9:=hz2 (by assumption);rw[List.length_append,List.length_singleton];omega,(fun h=>by cases h),(fun _=>by rw[List.length_append,List.length_singleton];omega),fun y hy=>by rcases List.mem_append.1 hy with hy|hy;exact hz4 y hy;exact .inr (List.mem_singleton.1 hy)⟩ (cT A) (eJ [1] A)
 refine aM 3 A (cM A A A A A A (fun h11=>?_) (fun h11=>?_))
 refine aM 4 A (aP A (dF 1 A A A A (aE hv)) (aP A (hC A A A (aE hv)) ?_))
 refine bQ A A A A A A (fun h12=>?_) (fun h12=>?_)
 refine aU 3 A (aR A (aC (bZ 2 A ?_)))
 refine dP A (bB (z:=jI 0) (s:=1) (cs:=(mI [lit])) A Tryz.underlying26 A (by decide) A (by kernel_rfl) A) ?_
 intro g13
 refine cW (i:=1) (z:=jI 0) (bytes:=8) A A A A Tryz.underlying26 (by kernel_rfl) A A A A (aG 0 A) (cO _) (by first|omega|(simp;done)|(simp;omega)) (cH zs ([lit])) (dL zs ([lit])) (fun _=>A) ?_
 intro v14
 refine aU 1 A (bJ (dJ 1 A ?_))
 exact gC (zs++([lit])) v14 true ⟨by have h9:=hz2 (by assumption);rw[List.length_append,List.length_singleton];omega,(fun h=>by cases h),(fun _=>by rw[List.length_append,List.length_singleton];omega),fun y hy=>by rcases List.mem_append.1 hy with hy|hy;exact hz4 y hy;exact .inr (List.mem_singleton.1 hy)⟩ (cT A) (eJ [1] A)
 refine aU 3 A (hH A ?_)
 exact gC zs gu d ⟨hz1,hz2,hz3,hz4⟩ (cT A) (dS A)
 refine aU 10 A (hH A ?_)
 exact gC zs gu d ⟨hz1,hz2,hz3,hz4⟩ (cT A) (dS A)
 intro ys yu yd hm15
 obtain⟨hy1,hy2,hy3,hy4⟩:=hm15
 refine bZ 3 A (aP A (dF 1 A A A A (aE hv)) (aP A (hC A A A (aE hv)) ?_))
 refine dP A (bB (z:=jI 0) (s:=1) (cs:=(mI [xs.getD i 0])) A Tryz.underlying26 A (by decide) A (by kernel_rfl) A) ?_
 intro g16
 refine cW (i:=1) (z:=jI 0) (bytes:=8) A A A A Tryz.underlying26 (by kernel_rfl) A A A A (aG 0 A) (cO _) (by first|omega|(simp;done)|(simp;omega)) (cH ys ([xs.getD i 0])) (dL ys ([xs.getD i 0])) (fun _=>A) ?_
 intro v17
 refine dJ 1 A (cK (bZ 1 A (aP A (dM A A A) (dJ 1 A ?_))))
 exact eD (i+1) (ys++([xs.getD i 0])) v17 yd ⟨by omega,by rw[List.length_append,List.length_singleton];omega,fun h=>by rw[List.length_append,List.length_singleton,hy2 h],fun h=>by rw[List.length_append,List.length_singleton];omega,fun y hy=>by rcases List.mem_append.1 hy with hy|hy;exact hy4 y hy;rw[List.mem_singleton] at hy;subst hy;exact .inl (bS (by omega))⟩ (by omega) (cT rfl) (eJ [1] rfl)
 refine bR (aS A ?_)
 refine bM (dI ?_)
 refine aO (bF (aC (aC (bZ 1 A ?_))))
 refine bW (fun h18=>?_) (fun h18=>?_)
 have hd9:=h18
 skip
 refine aU 1 A (aS A (bY (bD 2 A ?_)))
 exact aV (dX (post:=[rI9 3 gu zs]) A A (dS A) ⟨_,A,hz4,hz3 (by assumption),by omega⟩)
 have hd9:=h18
 skip
 refine aU 1 A (aR A (bZ 2 A ?_))
 refine dP A (bB (z:=jI 0) (s:=1) (cs:=(mI [lit])) A Tryz.underlying26 A (by decide) A (by kernel_rfl) A) ?_
 intro g19
 refine cW (i:=1) (z:=jI 0) (bytes:=8) A A A A Tryz.underlying26 (by kernel_rfl) A A A A (aG 0 A) (cO _) (by first|omega|(simp;done)|(simp;omega)) (cH zs ([lit])) (dL zs ([lit])) (fun _=>A) ?_
 intro v20
 refine aU 1 A (bD 2 A ?_)
 exact aV (dX (post:=[rowE 3 1 v20 ((zs++([lit])).length) (mI (zs++([lit])))]) rfl rfl (eJ [1] rfl) ⟨_,rfl,(fun y hy=>by rcases List.mem_append.1 hy with hy|hy;exact hz4 y hy;exact .inr (List.mem_singleton.1 hy)),by rw[List.length_append,List.length_singleton];omega,by have h9:=hz2 (by assumption);rw[List.length_append,List.length_singleton];omega⟩)
theorem CpS.skel {n m:Nt}(c:CpS n m):Skel n m:=⟨c.ins,kQ c.ss⟩
structure BSt where
  o:Nt
  tr:CRow
  ps:List HP
theorem MapOk.setA {tos:List Int}{c m x:Int}(h:MapOk tos c m) {j:Nat}(hx:LtOk x m):MapOk (tos.set j x) c m:=⟨by rw[List.length_set];exact h.1,fun k hk=>by
  rw[List.length_set] at hk
  by_cases e:j=k
  · subst e;rw[List.getD_eq_getElem?_getD,List.getElem?_set_self hk];exact hx
  · rw[List.getD_eq_getElem?_getD,List.getElem?_set_ne e,←List.getD_eq_getElem?_getD];exact h.2 k hk⟩
theorem xM (n:Nt) (w:World) (hr:RdsNt w n) (hn:NtOk n) :
   Calls Tryz.prog 33 #[.agg #[.int .i64 n.ins,n.sv,n.av,n.ov]] w (Ret w (fun u_ p_=>∃(ps:List HP) (m:Nt),u_=m.agg∧p_=[bigE ps]∧(∀w,(bigE ps).holds w→RdsNt w m)∧(m.sv.oneCell'=true∧m.av.oneCell'=true∧m.ov.oneCell'=true)∧NtOk m)):=by
 have hi0:=hn.i0
 have hi1:=hn.i1
 have hs1:=hn.s1
 have ha1:=hn.a1
 have ho1:=hn.o1
 have hcnt:n.cnt=1+n.ins+n.ss.length+n.gs.length:=rfl
 have hfst:n.fst=1+n.ins+n.ss.length:=rfl
 refine bN (N:=151) (args:=[.agg #[jI n.ins,n.sv,n.av,n.ov]]) Tryz.func33 A A (cF ?_)
 refine cR A (cN A A) ?_
 intro b1
 refine cR A (bP (z:=.agg #[jI 0,.slice none 0 0,.slice none 0 0,.slice none 0 0]) A A) ?_
 intro b2
 refine bR (eP (aP A (aF (cs:=[jI n.ins,n.sv,n.av,n.ov]) A A A A A (aD 1 A 0 A)) ?_))
 refine dA A (aJ A A (fun w hm=>aY (eA n w (hr.below hm.bel) hn))) (aU 1 A (aS A (bY (cF (aP A (aF (cs:=[jI n.ins,n.sv,n.av,n.ov]) A A A A A (aD 1 A 0 A)) ?_)))))
 refine eB A A A (aJ A A (fun w hm=>xK n w (hr.below hm.bel) hn)) ?_
 intro v3 p4 R5
 obtain⟨ph,m,rfl,rfl,hph,⟨o1m,o2m,o3m⟩,hmo,hms,hml⟩:=R5
 have mi0:=hmo.i0
 have mi1:=hmo.i1
 have ms1:=hmo.s1
 have ma1:=hmo.a1
 have mcnt:m.cnt=1+m.ins+m.ss.length+m.gs.length:=rfl
 have mfst:m.fst=1+m.ins+m.ss.length:=rfl
 refine cR A (bP (z:=.agg #[jI 0,.slice none 0 0,.slice none 0 0,.slice none 0 0]) A A) ?_
 intro b6
 refine bI (cs':=#[jI m.ins,m.sv,m.av,m.ov]) (i:=0) (off:=0) (us:=[jI m.ins,m.sv,m.av,m.ov]) A A A A A A A (aA A (aA o1m (aA o2m (aA o3m bA)))) A A A (bR (cF (aP A (aF (cs:=[jI m.ins,m.sv,m.av,m.ov]) A A A A A (aD 0 A 0 A)) ?_)))
 refine dA A (aJ A A (fun w hm=>aY (dD m w (hph w (hm.holds _ (bX (i:=1) A))) hmo))) (aU 1 A (cF (aP A (aF (cs:=[jI m.ins,m.sv,m.av,m.ov]) A A A A A (aD 0 A 0 A)) ?_)))
 refine dA A (aJ A A (fun w hm=>aY (cS m w (hph w (hm.holds _ (bX (i:=1) A))) hmo))) (dP A (gN (z:=.bool false) (s:=1) (bytes:=1) (n:=(List.replicate m.cnt.toNat bl0).length) (cs:=((List.replicate m.cnt.toNat bl0).flatMap blC)) A Tryz.underlying56 A (by decide) A A (by first|(rw[List.length_replicate];done)|(rw[List.length_replicate];omega)) (by first|(rw[List.length_replicate];done)|(rw[List.length_replicate];omega)) (by rw[List.length_replicate];omega) (jL blC 1 (fun _=>A) bl0 _ A m.cnt.toNat)) ?_)
 intro g7
 refine aU 1 A (cF (aP A (aF (cs:=[jI m.ins,m.sv,m.av,m.ov]) A A A A A (aD 1 A 0 A)) ?_))
 refine eB A A A (aJ A A (fun w hm=>gW m w (hph w (hm.holds _ (bX (i:=2) A))) hmo)) ?_
 intro v8 p9 R10
 subst R10
 refine aU 1 A (aC (bD 1 A (bE ?_)))
 refine gT (α:=Nat) (β:=List Bl) [0,1,2,3,4,5,6,22] A (fun i1 z1=>[rowE 3 1 v8 ((rtsL m m.ss.length).length) (mI (rtsL m m.ss.length)),rS9 4 1 (.slice (some ⟨g7,0,none⟩) ((List.replicate m.cnt.toNat bl0).length) ((List.replicate m.cnt.toNat bl0).length)) z1 blC,nB9 b6 m,bigE ph,eB9 b2,nB9 b1 n]) (fun i1 z1=>[(7,jI (i1:Int))]) (fun i1 z1=>i1≤(rtsL m m.ss.length).length∧z1.length=m.cnt.toNat) (fun i1 z1=>(rtsL m m.ss.length).length-i1) 0 _ ⟨Nat.zero_le _,List.length_replicate⟩ (cT A) (dS A) ?_
 intro i1 z1 hi11
 obtain⟨hi1,hz1⟩:=hi11
 refine aC (aC (bZ 2 A ?_))
 have hrt9:=gM hmo m.ss.length (Nat.le_refl _)
 refine aP A (bC A Tryz.underlying26 A (aG 0 A)) (bQ A A A A A A (fun h12=>?_) (fun h12=>?_))
 refine bR (aR A (bY (fM (bJ ?_))))
 have hlk:=eM hmo (i:=i1) (by omega)
 unfold LtOk at hlk
 refine aM 3 A (aP A (dF 1 A A A A (aG 0 A)) (aP A (bG (u:=jI ((rtsL m m.ss.length).getD i1 0)) A A A (aG 0 A) (eS (show _<(rtsL m m.ss.length).length by omega))) ?_))
 refine aP A (fF A A A (by refine⟨?_,?_,?_⟩<;>omega)) ?_
 refine aP A (dF 1 A A A A (aG 1 A)) (eN (i:=1) (n':=(z1.set ((((rtsL m m.ss.length).getD i1 0) / 2).toNat) { z1.getD ((((rtsL m m.ss.length).getD i1 0) / 2).toNat) bl0 with b:=true }).length) A A A A A A A A (by first|omega|(simp only[List.length_set];omega)) List.length_set.symm (fV blC (fun r=>.bool r.b) (fun _=>A) _ ({ z1.getD ((((rtsL m m.ss.length).getD i1 0) / 2).toNat) bl0 with b:=true }) A) A ?_)
 refine dB (cK (bZ 1 A (aP A (dM A A A) (dJ 1 A ?_))))
 exact cG (i1+1) (z1.set ((((rtsL m m.ss.length).getD i1 0) / 2).toNat) { z1.getD ((((rtsL m m.ss.length).getD i1 0) / 2).toNat) bl0 with b:=true }) ⟨by omega,by rw[List.length_set];exact hz1⟩ (by omega) (cT rfl) (dS rfl)
 refine bR (aS A ?_)
 refine bM (dI ?_)
 refine aO (bF (eP (aP A (aF (cs:=[jI m.ins,m.sv,m.av,m.ov]) A A A A A (aD 2 A 0 A)) ?_)))
 refine dA A (aJ A A (fun w hm=>aY (cS m w (hph w (hm.holds _ (bX (i:=3) A))) hmo))) (aP A (iM A A A) (aU 1 A (bE ?_)))
 refine gT (α:=Int) (β:=List Bl) [0,1,2,3,4,5,22,36] A (fun kv z3=>[rS9 4 1 (.slice (some ⟨g7,0,none⟩) ((List.replicate m.cnt.toNat bl0).length) ((List.replicate m.cnt.toNat bl0).length)) z3 blC,nB9 b6 m,bigE ph,eB9 b2,nB9 b1 n]) (fun kv z3=>[(8,jI kv)]) (fun kv z3=>m.fst-1≤kv∧kv≤m.cnt-1∧z3.length=m.cnt.toNat) (fun kv z3=>(kv-m.fst+1).toNat) (m.cnt-1) _ ⟨by omega,by omega,by assumption⟩ (cT A) (eJ [1,0,0,0,0] A) ?_
 intro kv z3 hi13
 obtain⟨hk1,hk2,hz3⟩:=hi13
 refine aC (aC (bZ 2 A ?_))
 refine gO A A A A A A (fun h14=>?_) (fun h14=>?_)
 refine bR (aR A (bY (fM (cF (aP A (aF (cs:=[jI m.ins,m.sv,m.av,m.ov]) A A A A A (aD 1 A 0 A)) (aM 1 A ?_))))))
 refine eB A A A (aJ A A (fun w hm=>tH m kv w (hph w (hm.holds _ (bX (i:=2) A))) hmo (by omega))) ?_
 intro v15 p16 R17
 obtain⟨ys17,rfl,ysr17,ysn17,ysl17⟩:=R17
 refine aU 1 A (bD 1 A (bE ?_))
 refine gT (α:=Nat) (β:=List Bl) [0,1,2,3,4,5,8,9,22,36,51] A (fun i4 z4=>[rI9 3 v15 ys17,rS9 4 1 (.slice (some ⟨g7,0,none⟩) ((List.replicate m.cnt.toNat bl0).length) ((List.replicate m.cnt.toNat bl0).length)) z4 blC,nB9 b6 m,bigE ph,eB9 b2,nB9 b1 n]) (fun i4 z4=>[(10,jI (i4:Int))]) (fun i4 z4=>i4≤ys17.length∧z4.length=m.cnt.toNat) (fun i4 z4=>ys17.length-i4) 0 _ ⟨Nat.zero_le _,hz3⟩ (cT A) (dS A) ?_
 intro i4 z4 hi18
 obtain⟨hi4,hz4⟩:=hi18
 refine aC (aC (bZ 2 A (aP A (bC A Tryz.underlying26 A (aG 0 A)) ?_)))
 refine bQ A A A A A A (fun h19=>?_) (fun h19=>?_)
 refine aM 3 A (aP A (dF 1 A A A A (aG 1 A)) ?_)
 refine aP A (bG (u:=.bool ((z4.getD (kv.toNat) bl0).b)) A A A (aG 1 A) (dG blC (fun r=>.bool r.b) (fun _=>A) z4 bl0 (show kv.toNat<_ by omega))) (bW (fun h20=>?_) (fun h20=>?_))
 refine aU 1 A (aR A (bY (fM (bJ ?_))))
 have hyi:=ysr17 _ (bS (d:=(0:Int)) (show i4<ys17.length by omega))
 refine aM 3 A (aP A (dF 1 A A A A (aG 0 A)) (aP A (hC A A A (aG 0 A)) ?_))
 refine aP A (fF A A A (by refine⟨?_,?_,?_⟩<;>omega)) ?_
 refine aP A (dF 1 A A A A (aG 1 A)) (eN (i:=1) (n':=(z4.set (((ys17.getD i4 0) / 2).toNat) { z4.getD (((ys17.getD i4 0) / 2).toNat) bl0 with b:=true }).length) A A A A A A A A (by first|omega|(simp only[List.length_set];omega)) List.length_set.symm (fV blC (fun r=>.bool r.b) (fun _=>A) _ ({ z4.getD (((ys17.getD i4 0) / 2).toNat) bl0 with b:=true }) A) A ?_)
 refine dB (cK (bZ 1 A (aP A (dM A A A) (dJ 1 A ?_))))
 exact cG (i4+1) (z4.set (((ys17.getD i4 0) / 2).toNat) { z4.getD (((ys17.getD i4 0) / 2).toNat) bl0 with b:=true }) ⟨by omega,by rw[List.length_set];exact hz4⟩ (by omega) (cT rfl) (dS rfl)
 refine aU 1 A (aS A ?_)
 refine bM (dI ?_)
 refine aO (cK (bZ 1 A (aP A (iM A A A) (dJ 1 A ?_))))
 exact cG (kv-1) z4 ⟨by omega,by omega,by assumption⟩ (by omega) (cT A) (eJ [1,0,0,0,0] A)
 refine aU 6 A (aS A ?_)
 refine bM (dI ?_)
 refine aO (cK (bZ 1 A (aP A (iM A A A) (dJ 1 A ?_))))
 exact cG (kv-1) z4 ⟨by omega,by omega,by assumption⟩ (by omega) (cT A) (eJ [1,0,0,0,0] A)
 refine bR (aS A ?_)
 refine bM (dI ?_)
 refine aO (bF (cF (aP A (aF (cs:=[jI m.ins,m.sv,m.av,m.ov]) A A A A A (aD 1 A 0 A)) ?_)))
 refine eB A A A (aJ A A (fun w hm=>iI m w (hph w (hm.holds _ (bX (i:=2) A))) hmo)) ?_
 intro v21 p22 R23
 obtain⟨pe,e0,tv,rfl,rfl,hpe,o1e,⟨hav,hov,hgs0,hos0⟩,hsk0,hok0⟩:=R23
 simp only[Nt.agg,hav,hov]
 have hme:NtOk (Nt.mk e0.ins e0.sv (.slice none 0 0) (.slice none 0 0) e0.ss [] []):=by have h9:=hok0;cases e0;simp only at hav hov hgs0 hos0;subst hav hov hgs0 hos0;exact h9
 have hse:Skel m (Nt.mk e0.ins e0.sv (.slice none 0 0) (.slice none 0 0) e0.ss [] []):=⟨hsk0.ins,hsk0.ss⟩
 have hce:(Nt.mk e0.ins e0.sv (.slice none 0 0) (.slice none 0 0) e0.ss [] []).cnt=m.fst:=by rw[←hse.fst];exact Int.add_zero _
 refine aM 3 A (cR A (bP (z:=.agg #[jI 0,.slice none 0 0,.slice none 0 0,.slice none 0 0]) A A) ?_)
 intro b24
 refine bI (cs':=#[jI e0.ins,e0.sv,.slice none 0 0,.slice none 0 0]) (i:=0) (off:=0) (us:=[jI e0.ins,e0.sv,.slice none 0 0,.slice none 0 0]) A A A A A A A (aA A (aA o1e (aA A (aA A bA)))) A A A (aU 1 A (aC (bD 2 A (bE ?_))))
 refine gT (α:=Int) (β:=BSt) [0,1,2,3,4,5,11,22,36,51] rfl (fun kw q=>[nB9 b24 q.o,rS9 46 3 q.o.sv q.o.ss sqC,rI9 3 q.tr.v q.tr.xs,bigE q.ps,rS9 4 1 (.slice (some ⟨g7,0,none⟩) ((List.replicate m.cnt.toNat bl0).length) ((List.replicate m.cnt.toNat bl0).length)) z3 blC,nB9 b6 m,bigE ph,eB9 b2,nB9 b1 n]) (fun kw q=>[(12,q.tr.v),(13,jI kw)]) (fun kw q=>m.fst≤kw∧kw≤m.cnt∧NtOk q.o∧Skel m q.o∧MapOk q.tr.xs kw q.o.cnt∧(∀w,(bigE q.ps).holds w→NtRest w q.o)∧(q.o.sv.oneCell'=true∧q.o.av.oneCell'=true∧q.o.ov.oneCell'=true)) (fun kw q=>(m.cnt-kw).toNat) m.fst ⟨Nt.mk e0.ins e0.sv (.slice none 0 0) (.slice none 0 0) e0.ss [] [],CRow.mk _ (evs2 m.fst.toNat),_⟩ ⟨Int.le_refl _,by omega,hme,hse,by rw[hce];have h9:=mE (k:=m.fst.toNat) (m:=m.fst) (by omega);rw[Int.toNat_of_nonneg (by omega)] at h9;exact h9,fun w hw=>⟨hpe w hw,dN (w0:=w) (l:=[]) w (Mem.refl w),dN (w0:=w) (l:=[]) w (Mem.refl w)⟩,⟨o1e,rfl,rfl⟩⟩ (cT rfl) (dS rfl) ?_
 intro kw q hi25
 obtain⟨hkw1,hkw2,ho,hsk,hmk,hps,⟨o1o,o2o,o3o⟩⟩:=hi25
 have hmk1:=hmk.1
 have hco:=eX ho
 refine aC (aC (bZ 1 A (aP A (aF (cs:=[jI m.ins,m.sv,m.av,m.ov]) A A A A A (aD 5 A 0 A)) ?_)))
 refine dA A (aJ A A (fun w hm=>aY (cS m w (hph w (hm.holds _ (bX (i:=6) A))) hmo))) (bQ A A A A A A (fun h26=>?_) (fun h26=>?_))
 refine bR (aR A (bY (fM (aC (bZ 1 A ?_)))))
 refine dP A (bB (z:=jI 0) (s:=1) (cs:=(mI [0])) A Tryz.underlying26 A (by decide) A (by kernel_rfl) A) ?_
 intro g27
 refine cW (i:=3) (z:=jI 0) (bytes:=8) A A A A Tryz.underlying26 (by kernel_rfl) A A A A (aG 0 A) (cO _) (by first|omega|(simp;done)|(simp;omega)) (cH q.tr.xs ([0])) (dL q.tr.xs ([0])) (fun _=>A) ?_
 intro v28
 refine aU 1 A (eP ?_)
 obtain⟨tq,htq⟩:∃t:List Int,t=q.tr.xs++[(0:Int)]:=⟨_,rfl⟩
 have hmkA:MapOk tq (kw+1) q.o.cnt:=by rw[htq];exact hmk.app ⟨Int.le_refl _,by omega⟩
 have hmkA1:=hmkA.1
 refine eC (l':=[rowE 3 1 (.slice (some ⟨g27,0,none⟩) 1 1) 1 (mI [0]),nB9 b24 q.o,rS9 46 3 q.o.sv q.o.ss sqC,rI9 3 v28 tq,bigE q.ps,rS9 4 1 (.slice (some ⟨g7,0,none⟩) ((List.replicate m.cnt.toNat bl0).length) ((List.replicate m.cnt.toNat bl0).length)) z3 blC,nB9 b6 m,bigE ph,eB9 b2,nB9 b1 n]) (by rw[htq]) ?_
 refine aM 2 A (aP A (dF 1 A A A A (aG 5 A)) ?_)
 refine aP A (bG (u:=.bool ((z3.getD (kw.toNat) bl0).b)) A A A (aG 5 A) (dG blC (fun r=>.bool r.b) (fun _=>A) z3 bl0 (show kw.toNat<_ by omega))) (bW (fun h29=>?_) (fun h29=>?_))
 refine aU 1 A (aS A (bY (cF (aP A (aF (cs:=[jI q.o.ins,q.o.sv,q.o.av,q.o.ov]) A A A A A (aD 1 A 0 A)) ?_))))
 refine eB A A A (aJ A A (fun w hm=>rL q.o w ((hps w (hm.holds _ (bX (i:=4) A))).rds (aG 2 A w hm)) ho)) ?_
 intro v30 p31 R32
 obtain⟨ls32,rfl,lsl32⟩:=R32
 refine aU 1 A (aC (bZ 1 A (aP A (aF (cs:=[jI m.ins,m.sv,m.av,m.ov]) A A A A A (aD 7 A 0 A)) (aM 1 A ?_))))
 refine eB A A A (aJ A A (fun w hm=>tH m kw w (hph w (hm.holds _ (bX (i:=8) A))) hmo (by omega))) ?_
 intro v33 p34 R35
 obtain⟨ys35,rfl,ysr35,ysn35,ysl35⟩:=R35
 have hlys:∀y∈ys35,LtOk y (kw+1):=fun y hy=>by have h9:=ysr35 y hy;unfold LtOk;omega
 have hlvs:=qR hmkA hlys
 have hlvl:=kV tq ys35
 refine eB A A A (aJ A A (fun w hm=>gU tq ys35 _ _ _ _ w ((aG 5 A) w hm) ((aG 0 A) w hm) hmkA (by omega) (by omega) hlys (by omega))) ?_
 intro v36 p37 R38
 subst R38
 refine aU 1 A (cF ?_)
 refine dP A (dH (s:=1) A Tryz.underlying26 A) ?_
 intro g39
 refine aU 1 A (aC (bD 1 A (bE ?_)))
 refine fE [rowE 3 1 (.slice (some ⟨g39,0,none⟩) 0 0) (([]:List Int).length) (mI ([]:List Int)),rowE 3 1 v36 ((mpS tq ys35).length) (mI (mpS tq ys35)),rI9 3 v33 ys35,rI9 3 v30 ls32,rowE 3 1 (.slice (some ⟨g27,0,none⟩) 1 1) 1 (mI [0]),nB9 b24 q.o,rS9 46 3 q.o.sv q.o.ss sqC,rI9 3 v28 tq,bigE q.ps,rS9 4 1 (.slice (some ⟨g7,0,none⟩) ((List.replicate m.cnt.toNat bl0).length) ((List.replicate m.cnt.toNat bl0).length)) z3 blC,nB9 b6 m,bigE ph,eB9 b2,nB9 b1 n] (fun w hm=>hm) ?_
 refine iC (α:=Nat) (β:=List Int) (γ:=Value) [0,1,2,3,4,5,11,12,13,14,15,22,36,51,85,95] A (fun i5 xs lv=>[rI9 3 lv xs,rowE 3 1 v36 ((mpS tq ys35).length) (mI (mpS tq ys35)),rI9 3 v33 ys35,rI9 3 v30 ls32,rowE 3 1 (.slice (some ⟨g27,0,none⟩) 1 1) 1 (mI [0]),nB9 b24 q.o,rS9 46 3 q.o.sv q.o.ss sqC,rI9 3 v28 tq,bigE q.ps,rS9 4 1 (.slice (some ⟨g7,0,none⟩) ((List.replicate m.cnt.toNat bl0).length) ((List.replicate m.cnt.toNat bl0).length)) z3 blC,nB9 b6 m,bigE ph,eB9 b2,nB9 b1 n]) (fun i5 xs lv=>[(16,lv),(17,jI (i5:Int))]) (fun i5 xs lv=>i5≤(mpS tq ys35).length∧(∀x∈xs,LtOk x q.o.cnt)∧(0<i5→1≤xs.length)∧xs.length≤i5) (fun i5 xs lv=>(mpS tq ys35).length-i5) 0 [] _ ⟨Nat.zero_le _,(fun x hx=>by cases hx),(fun h=>absurd h (Nat.lt_irrefl _)),Nat.le_refl _⟩ (cT A) (dS A) ?_
 intro i5 xs lv hi40
 obtain⟨hi5,hxr,hxn,hxl⟩:=hi40
 refine aC (aC (bZ 2 A (aP A (bC A Tryz.underlying26 A (aG 1 A)) ?_)))
 refine bQ A A A A A A (fun h41=>?_) (fun h41=>?_)
 refine bR (aR A (bY (fM (bJ ?_))))
 have hlv:=hlvs _ (bS (d:=(0:Int)) (show i5<(mpS tq ys35).length by omega))
 refine aM 4 A (aP A (dF 1 A A A A (aG 1 A)) (aP A (bG (u:=jI ((mpS tq ys35).getD i5 0)) A A A (aG 1 A) (eS (show _<(mpS tq ys35).length by omega))) ?_))
 refine eB A A A (aJ A A (fun w hm=>mP xs ls32 ((mpS tq ys35).getD i5 0) _ _ w ((aG 0 A) w hm) ((aG 3 A) w hm) (by rw[lsl32,Int.toNat_of_nonneg (by omega)];exact hxr) (by rw[lsl32,Int.toNat_of_nonneg (by omega)];exact hlv) (by omega) (by first|omega|(rw[List.length_drop];omega)))) ?_
 intro v42 p43 R44
 obtain⟨ys44,rfl,ym44,yn44,yl44⟩:=R44
 refine dJ 1 A (cK (bZ 1 A (aP A (dM A A A) (dJ 1 A ?_))))
 exact cI (i5+1) ys44 v42 ⟨by omega,fun x hx=>by rcases ym44 x hx with hx|hx;exact hxr x hx;rw[hx];exact hlv,fun _=>yn44,by omega⟩ (by omega) (cT rfl) (eJ [0,1,0,0,0,0,0,0,0,0,0,0,0,0] rfl)
 refine bR (aS A ?_)
 refine bM (dI ?_)
 refine aO (bF (fM ?_))
 refine oP (α:=Nt) (β:=List HP) (γ:=List Int) (δ:=Value) [0,1,2,3,4,5,11,12,13,22,36,51,85,95,107] A (fun o2 ps2 xq lq=>[rI9 3 lq xq,nB9 b24 o2,rS9 46 3 o2.sv o2.ss sqC,rI9 3 v28 tq,bigE ps2,rS9 4 1 (.slice (some ⟨g7,0,none⟩) ((List.replicate m.cnt.toNat bl0).length) ((List.replicate m.cnt.toNat bl0).length)) z3 blC,nB9 b6 m,bigE ph,eB9 b2,nB9 b1 n]) (fun o2 ps2 xq lq=>[(16,lq)]) (fun o2 ps2 xq lq=>NtOk o2∧Skel m o2∧q.o.cnt≤o2.cnt∧(∀w,(bigE ps2).holds w→NtRest w o2)∧(o2.sv.oneCell'=true∧o2.av.oneCell'=true∧o2.ov.oneCell'=true)∧(∀x∈xq,LtOk x o2.cnt)∧1≤xq.length∧xq.length≤1000) (fun o2 ps2 xq lq=>xq.length) q.o q.ps xs _ ⟨ho,hsk,Int.le_refl _,hps,⟨o1o,o2o,o3o⟩,hxr,hxn (by omega),by omega⟩ (cT A) (eJ [0,4,0,0,0,0,0,0,0,0] A) ?_
 intro o2 ps2 xq lq hi45
 obtain⟨ho2,hsk2,hle2,hps2,⟨o1q,o2q,o3q⟩,hxq,hxq1,hxq9⟩:=hi45
 have hco2:=eX ho2
 refine aC (aC (bZ 1 A (aP A (bC A Tryz.underlying26 A (aG 0 A)) ?_)))
 refine fJ A A A A A A (fun h46=>?_) (fun h46=>?_)
 refine bR (aR A (bY (bE (aC ?_))))
 have hx0:=hxq _ (bS (d:=(0:Int)) (show 0<xq.length by omega))
 have hx1:=hxq _ (bS (d:=(0:Int)) (show 1<xq.length by omega))
 unfold LtOk at hx0 hx1
 refine eF (l:=[rI9 3 lq xq,nB9 b24 o2,rS9 46 3 o2.sv o2.ss sqC,rI9 3 v28 tq,bigE ps2,rS9 4 1 (.slice (some ⟨g7,0,none⟩) ((List.replicate m.cnt.toNat bl0).length) ((List.replicate m.cnt.toNat bl0).length)) z3 blC,nB9 b6 m,bigE ph,eB9 b2,nB9 b1 n]) A 13 [0,1,2,3,4,5,6,7,8,9,10,11,12] (List.take 13 _) (List.drop 13 _) [[],[],[1],[2],[],[4],[5],[0,3,6],[7],[7,8],[7,8],[],[7,9,11]] [some 121,some 122,some 123,some 124,some 125,some 126,some 127,some 128,some 120,some 129,some 130,some 18,none] (fun i_ vs_ v_ p_=>match i_ with|0=>v_=.agg #[jI o2.ins,o2.sv,o2.av,o2.ov]∧p_=[]|1=>v_=lq∧p_=[]|2=>v_=elP lq ((0:Int).toNat*1)∧p_=[]|3=>v_=jI (xq.getD 0 0)∧p_=[]|4=>v_=lq∧p_=[]|5=>v_=elP lq ((1:Int).toNat*1)∧p_=[]|6=>v_=jI (xq.getD 1 0)∧p_=[]|7=>(fun u_ p_=>∃(ps:List HP) (m:Nt) (z:Int),u_=.tuple #[m.agg,jI z]∧p_=[rS9 46 3 m.sv m.ss sqC,bigE ps]∧(∀w,(bigE ps).holds w→NtRest w m)∧(m.sv.oneCell'=true∧m.av.oneCell'=true∧m.ov.oneCell'=true)∧CpS o2 m∧OpS o2 m (andO o2.fst o2.gs (xq.getD 0 0) (xq.getD 1 0)) z) v_ p_|8=>v_=.tuple #[.agg #[jI (intOf_o (ag9 0 (tp9 0 (gV9 vs_ 0)))),(ag9 1 (tp9 0 (gV9 vs_ 0))),(ag9 2 (tp9 0 (gV9 vs_ 0))),(ag9 3 (tp9 0 (gV9 vs_ 0)))],jI (intOf_o (tp9 1 (gV9 vs_ 0)))]∧p_=[]|9=>v_=.agg #[jI (intOf_o (ag9 0 (tp9 0 (gV9 vs_ 0)))),(ag9 1 (tp9 0 (gV9 vs_ 0))),(ag9 2 (tp9 0 (gV9 vs_ 0))),(ag9 3 (tp9 0 (gV9 vs_ 0)))]∧p_=[]|10=>v_=jI (intOf_o (tp9 1 (gV9 vs_ 0)))∧p_=[]|11=>IsBox #[jI 0,.slice none 0 0,.slice none 0 0,.slice none 0 0] 28 v_ p_|12=>p_=[boxE (blkOf (gV9 vs_ 2)) #[jI (intOf_o (ag9 0 (tp9 0 (gV9 vs_ 0)))),(ag9 1 (tp9 0 (gV9 vs_ 0))),(ag9 2 (tp9 0 (gV9 vs_ 0))),(ag9 3 (tp9 0 (gV9 vs_ 0)))] 28]|_=>True) [[],[],[1],[2],[],[4],[5],[0,3,6],[7],[7,8],[7,8],[],[7,9]] [none,none,none,none,none,none,none,none,none,none,none,none,some 11] [] [0,1,2,3,4,5,6,7,8,9,10,12] 14 (List.take_append_drop 13 _).symm (by kernel_rfl) (by kernel_rfl) (by kernel_rfl) A A ?_ ?_
 refine⟨?_,?_,?_,?_,?_,?_,?_,?_,?_,?_,?_,?_,?_,trivial⟩
 intro vf pf hmu hR
 refine bL [] [] A (aW (aI [11] A) (List.sublist_append_right _ _) ?_)
 exact aT (aF (cs:=[jI o2.ins,o2.sv,o2.av,o2.ov]) A A A A A (aD 1 A 0 A))
 intro vf pf hmu hR
 refine bL [] [] A (bH (aI [16] A) ?_)
 exact aT (aK A)
 intro vf pf hmu hR
 have e1:=hR 1 (by decide)
 refine bL [1] [1] A (aW (sk 122 (congrArg some e1.1) (aB _)) (List.sublist_append_right _ _) ?_)
 exact aT (dF 1 A A A A (aG 0 A))
 intro vf pf hmu hR
 have e2:=hR 2 (by decide)
 refine bL [2] [2] A (aW (sk 123 (congrArg some e2.1) (aB _)) (List.sublist_append_right _ _) ?_)
 exact aT (bG (u:=jI (xq.getD 0 0)) A A A (aG 0 A) (eS (show _<xq.length by omega)))
 intro vf pf hmu hR
 refine bL [] [] A (bH (aI [16] A) ?_)
 exact aT (aK A)
 intro vf pf hmu hR
 have e4:=hR 4 (by decide)
 refine bL [4] [4] A (aW (sk 125 (congrArg some e4.1) (aB _)) (List.sublist_append_right _ _) ?_)
 exact aT (dF 1 A A A A (aG 0 A))
 intro vf pf hmu hR
 have e5:=hR 5 (by decide)
 refine bL [5] [5] A (aW (sk 126 (congrArg some e5.1) (aB _)) (List.sublist_append_right _ _) ?_)
 exact aT (bG (u:=jI (xq.getD 1 0)) A A A (aG 0 A) (eS (show _<xq.length by omega)))
 intro vf pf hmu hR
 have e0:=hR 0 (by decide)
 have e3:=hR 3 (by decide)
 have e6:=hR 6 (by decide)
 refine bL [0,3,6] [0,3,6] A (aW (sk 121 (congrArg some e0.1) (sk 124 (congrArg some e3.1) (sk 127 (congrArg some e6.1) (aB _)))) (List.sublist_append_right _ _) ?_)
 exact aJ A A (fun w hm=>iF o2 (xq.getD 0 0) (xq.getD 1 0) w ((hps2 w (hm.holds _ (bX (i:=4) A))).rds (aG 2 A w hm)) ho2 (by omega) (by omega))
 intro vf pf hmu hR
 have e7:(fun u_ p_=>∃(ps:List HP) (m:Nt) (z:Int),u_=.tuple #[m.agg,jI z]∧p_=[rS9 46 3 m.sv m.ss sqC,bigE ps]∧(∀w,(bigE ps).holds w→NtRest w m)∧(m.sv.oneCell'=true∧m.av.oneCell'=true∧m.ov.oneCell'=true)∧CpS o2 m∧OpS o2 m (andO o2.fst o2.gs (xq.getD 0 0) (xq.getD 1 0)) z) (vf 7) (pf 7):=hR 7 (by decide)
 obtain⟨v47,vE7⟩:∃x,vf 7=x:=⟨_,rfl⟩
 obtain⟨p48,pE7⟩:∃x,pf 7=x:=⟨_,rfl⟩
 have R49:=e7
 rw[vE7,pE7] at R49
 obtain⟨ps2b,m2,z2,rfl,rfl,hp2b,⟨o1p,o2p,o3p⟩,hcp2,hop2⟩:=R49
 have g2:=fQ ho2 hcp2 hop2
 have l2:=g2.ln
 have c2:=g2.gr.cnt
 have r2:=eX g2.gr.ok
 have hsk2b:=hsk2.trans hcp2.skel
 refine bL [7] [7] A (bU (sk 128 (congrArg some vE7) (aB _)) (by simp only[pE7,vE7,fS]<;>rfl) ?_)
 exact cD (aT (aK A)) (fun _ _ h=>⟨h.1.trans (by show _=(.tuple #[.agg #[jI (intOf_o (ag9 0 (tp9 0 (vf 7)))),(ag9 1 (tp9 0 (vf 7))),(ag9 2 (tp9 0 (vf 7))),(ag9 3 (tp9 0 (vf 7)))],jI (intOf_o (tp9 1 (vf 7)))]:Value);first|(rw[vE7];done)|(rw[vE7];rfl)),h.2⟩)
 intro vf pf hmu hR
 have e7:(fun u_ p_=>∃(ps:List HP) (m:Nt) (z:Int),u_=.tuple #[m.agg,jI z]∧p_=[rS9 46 3 m.sv m.ss sqC,bigE ps]∧(∀w,(bigE ps).holds w→NtRest w m)∧(m.sv.oneCell'=true∧m.av.oneCell'=true∧m.ov.oneCell'=true)∧CpS o2 m∧OpS o2 m (andO o2.fst o2.gs (xq.getD 0 0) (xq.getD 1 0)) z) (vf 7) (pf 7):=hR 7 (by decide)
 obtain⟨v47,vE7⟩:∃x,vf 7=x:=⟨_,rfl⟩
 obtain⟨p48,pE7⟩:∃x,pf 7=x:=⟨_,rfl⟩
 have R49:=e7
 rw[vE7,pE7] at R49
 obtain⟨ps2b,m2,z2,rfl,rfl,hp2b,⟨o1p,o2p,o3p⟩,hcp2,hop2⟩:=R49
 have g2:=fQ ho2 hcp2 hop2
 have l2:=g2.ln
 have c2:=g2.gr.cnt
 have r2:=eX g2.gr.ok
 have hsk2b:=hsk2.trans hcp2.skel
 have e8:(vf 8)=.tuple #[.agg #[jI (intOf_o (ag9 0 (tp9 0 (vf 7)))),(ag9 1 (tp9 0 (vf 7))),(ag9 2 (tp9 0 (vf 7))),(ag9 3 (tp9 0 (vf 7)))],jI (intOf_o (tp9 1 (vf 7)))]∧(pf 8)=[]:=hR 8 (by decide)
 rw[vE7] at e8
 refine bL [7,8] [7,8] A (bU (sk 120 (congrArg some e8.1) (aB _)) (by simp only[pE7,vE7,e8.2,fS]<;>rfl) ?_)
 exact cD (aT (aK A)) (fun _ _ h=>⟨h.1.trans (by show _=(.agg #[jI (intOf_o (ag9 0 (tp9 0 (vf 7)))),(ag9 1 (tp9 0 (vf 7))),(ag9 2 (tp9 0 (vf 7))),(ag9 3 (tp9 0 (vf 7)))]:Value);first|(rw[vE7];done)|(rw[vE7];rfl)),h.2⟩)
 intro vf pf hmu hR
 have e7:(fun u_ p_=>∃(ps:List HP) (m:Nt) (z:Int),u_=.tuple #[m.agg,jI z]∧p_=[rS9 46 3 m.sv m.ss sqC,bigE ps]∧(∀w,(bigE ps).holds w→NtRest w m)∧(m.sv.oneCell'=true∧m.av.oneCell'=true∧m.ov.oneCell'=true)∧CpS o2 m∧OpS o2 m (andO o2.fst o2.gs (xq.getD 0 0) (xq.getD 1 0)) z) (vf 7) (pf 7):=hR 7 (by decide)
 obtain⟨v47,vE7⟩:∃x,vf 7=x:=⟨_,rfl⟩
 obtain⟨p48,pE7⟩:∃x,pf 7=x:=⟨_,rfl⟩
 have R49:=e7
 rw[vE7,pE7] at R49
 obtain⟨ps2b,m2,z2,rfl,rfl,hp2b,⟨o1p,o2p,o3p⟩,hcp2,hop2⟩:=R49
 have g2:=fQ ho2 hcp2 hop2
 have l2:=g2.ln
 have c2:=g2.gr.cnt
 have r2:=eX g2.gr.ok
 have hsk2b:=hsk2.trans hcp2.skel
 have e8:(vf 8)=.tuple #[.agg #[jI (intOf_o (ag9 0 (tp9 0 (vf 7)))),(ag9 1 (tp9 0 (vf 7))),(ag9 2 (tp9 0 (vf 7))),(ag9 3 (tp9 0 (vf 7)))],jI (intOf_o (tp9 1 (vf 7)))]∧(pf 8)=[]:=hR 8 (by decide)
 rw[vE7] at e8
 refine bL [7,8] [7,8] A (bU (sk 120 (congrArg some e8.1) (aB _)) (by simp only[pE7,vE7,e8.2,fS]<;>rfl) ?_)
 exact cD (aT (aK A)) (fun _ _ h=>⟨h.1.trans (by show _=(jI (intOf_o (tp9 1 (vf 7))):Value);first|(rw[vE7];done)|(rw[vE7];rfl)),h.2⟩)
 intro vf pf hmu hR
 refine bL [] [] A (aW (aB _) (List.sublist_append_right _ _) ?_)
 exact bP (z:=.agg #[jI 0,.slice none 0 0,.slice none 0 0,.slice none 0 0]) A A
 intro vf pf hmu hR
 have e7:(fun u_ p_=>∃(ps:List HP) (m:Nt) (z:Int),u_=.tuple #[m.agg,jI z]∧p_=[rS9 46 3 m.sv m.ss sqC,bigE ps]∧(∀w,(bigE ps).holds w→NtRest w m)∧(m.sv.oneCell'=true∧m.av.oneCell'=true∧m.ov.oneCell'=true)∧CpS o2 m∧OpS o2 m (andO o2.fst o2.gs (xq.getD 0 0) (xq.getD 1 0)) z) (vf 7) (pf 7):=hR 7 (by decide)
 obtain⟨v47,vE7⟩:∃x,vf 7=x:=⟨_,rfl⟩
 obtain⟨p48,pE7⟩:∃x,pf 7=x:=⟨_,rfl⟩
 have R49:=e7
 rw[vE7,pE7] at R49
 obtain⟨ps2b,m2,z2,rfl,rfl,hp2b,⟨o1p,o2p,o3p⟩,hcp2,hop2⟩:=R49
 have g2:=fQ ho2 hcp2 hop2
 have l2:=g2.ln
 have c2:=g2.gr.cnt
 have r2:=eX g2.gr.ok
 have hsk2b:=hsk2.trans hcp2.skel
 have e9:(vf 9)=.agg #[jI (intOf_o (ag9 0 (tp9 0 (vf 7)))),(ag9 1 (tp9 0 (vf 7))),(ag9 2 (tp9 0 (vf 7))),(ag9 3 (tp9 0 (vf 7)))]∧(pf 9)=[]:=hR 9 (by decide)
 rw[vE7] at e9
 have e11:IsBox #[jI 0,.slice none 0 0,.slice none 0 0,.slice none 0 0] 28 (vf 11) (pf 11):=hR 11 (by decide)
 obtain⟨b50,vE11,pE11⟩:=e11
 refine Or.inl ⟨A,?_⟩
 show RunM _ _ _ (pf 11) (([7,9]:List Nat).flatMap pf++_) (envOf3 _ vf [7,9,11]++_) _ _
 rw[pE11]
 exact cV (sk 18 (congrArg some vE11) (sk 129 (congrArg some e9.1) (aB _))) (by simp only[pE7,vE7,e9.2,fS]<;>rfl) (fD (dR (us:=[jI m2.ins,m2.sv,m2.av,m2.ov]) (off:=0) 0 A A A A A A (aA A (aA o1p (aA o2p (aA o3p bA)))) A A) (fun v_ p_ h=>by show p_=[boxE (blkOf (vf 11)) #[jI (intOf_o (ag9 0 (tp9 0 (vf 7)))),(ag9 1 (tp9 0 (vf 7))),(ag9 2 (tp9 0 (vf 7))),(ag9 3 (tp9 0 (vf 7)))] 28];rw[vE7,vE11];exact h))
 intro vf pf hmu hR
 have e7:(fun u_ p_=>∃(ps:List HP) (m:Nt) (z:Int),u_=.tuple #[m.agg,jI z]∧p_=[rS9 46 3 m.sv m.ss sqC,bigE ps]∧(∀w,(bigE ps).holds w→NtRest w m)∧(m.sv.oneCell'=true∧m.av.oneCell'=true∧m.ov.oneCell'=true)∧CpS o2 m∧OpS o2 m (andO o2.fst o2.gs (xq.getD 0 0) (xq.getD 1 0)) z) (vf 7) (pf 7):=hR 7 (by decide)
 obtain⟨v47,vE7⟩:∃x,vf 7=x:=⟨_,rfl⟩
 obtain⟨p48,pE7⟩:∃x,pf 7=x:=⟨_,rfl⟩
 have R49:=e7
 rw[vE7,pE7] at R49
 obtain⟨ps2b,m2,z2,rfl,rfl,hp2b,⟨o1p,o2p,o3p⟩,hcp2,hop2⟩:=R49
 have g2:=fQ ho2 hcp2 hop2
 have l2:=g2.ln
 have c2:=g2.gr.cnt
 have r2:=eX g2.gr.ok
 have hsk2b:=hsk2.trans hcp2.skel
 have e10:(vf 10)=jI (intOf_o (tp9 1 (vf 7)))∧(pf 10)=[]:=hR 10 (by decide)
 rw[vE7] at e10
 have e11:IsBox #[jI 0,.slice none 0 0,.slice none 0 0,.slice none 0 0] 28 (vf 11) (pf 11):=hR 11 (by decide)
 obtain⟨b50,vE11,pE11⟩:=e11
 have e12:(pf 12)=[boxE (blkOf (vf 11)) #[jI (intOf_o (ag9 0 (tp9 0 (vf 7)))),(ag9 1 (tp9 0 (vf 7))),(ag9 2 (tp9 0 (vf 7))),(ag9 3 (tp9 0 (vf 7)))] 28]:=hR 12 (by decide)
 rw[vE7,vE11] at e12
 have pE12:=e12
 have q0:=hR 0 (by decide)
 have q1:=hR 1 (by decide)
 have q2:=hR 2 (by decide)
 have q3:=hR 3 (by decide)
 have q4:=hR 4 (by decide)
 have q5:=hR 5 (by decide)
 have q6:=hR 6 (by decide)
 have q8:=hR 8 (by decide)
 have q9:=hR 9 (by decide)
 have q10:=hR 10 (by decide)
 refine cE (bO [16,13,12,11,5,4,3,2,1,0] _ (sk 18 (congrArg some vE11) (bO [119,107,95,85,51,36,22] _ (sk 130 (congrArg some e10.1) (aB _)) A)) A) (by simp only[pE7,vE7,pE12,q0.2,q1.2,q2.2,q3.2,q4.2,q5.2,q6.2,q8.2,q9.2,q10.2,fS]<;>rfl) ?_
 simp only[List.drop_succ_cons,List.drop_zero]
 refine aU 1 A (eP ?_)
 have hzq:intOf_o (tp9 1 (Value.tuple #[m2.agg,Value.int IntKind.i64 z2]))=z2:=rfl
 have hzp:intOf_o (tp9 1 (Value.tuple #[m2.agg,jI z2]))=z2:=rfl
 refine aM 1 A (bQ A A A A A A (fun h51=>?_) (fun h51=>?_))
 refine bR (aR A (cF (aP A (aF (cs:=[jI m.ins,m.sv,m.av,m.ov]) A A A A A (aD 9 A 0 A)) ?_)))
 refine bI (cs':=#[jI m.ins,m.sv,m.av,m.ov]) (i:=11) (off:=0) (us:=[jI m.ins,m.sv,m.av,m.ov]) A A A A A A A (aA A (aA o1m (aA o2m (aA o3m bA)))) A A A (bR ?_)
 refine aV (aL ?_)
 refine aQ (aL ?_)
 refine aQ (aL ?_)
 refine aQ (fL ?_)
 refine aQ (aL ?_)
 exact bV (rs:=[.cell 2 28]) (vs:=[.agg #[jI m.ins,m.sv,m.av,m.ov]]) (post:=[bigE ph]) A ⟨⟨b2,0,[jI m.ins,m.sv,m.av,m.ov],A,A,by kernel_rfl,by kernel_rfl,aD 11 A 0 A⟩,trivial⟩ A (eJ [10] A) ⟨_,m,A,A,hph,⟨o1m,o2m,o3m⟩,hmo⟩
 refine bR (aS A (bY (cF (aP A (aF (cs:=[jI m2.ins,m2.sv,m2.av,m2.ov]) A A A A A (aD 2 A 0 A)) ?_))))
 refine bI (cs':=#[jI m2.ins,m2.sv,m2.av,m2.ov]) (i:=4) (off:=0) (us:=[jI m2.ins,m2.sv,m2.av,m2.ov]) A A A A A A A (aA A (aA o1p (aA o2p (aA o3p bA)))) A A A (bR ?_)
 have hz2:LtOk z2 m2.cnt:=⟨by omega,by omega⟩
 have hxd:∀x∈xq.drop 2,LtOk x m2.cnt:=fun x hx=>by have h9:=hxq x (List.mem_of_mem_drop hx);exact⟨h9.1,by have:=h9.2;omega⟩
 have hdl:(xq.drop (2:Int).toNat).length=xq.length-2:=List.length_drop
 refine eV A 6 [0,1,2,3,4,5] (List.take 6 _) (List.drop 6 _) [[],[0],[],[2],[],[1,3,4]] [135,136,137,138,139,140] (fun i_ vs_ v_ p_=>match i_ with|0=>v_=lq∧p_=[]|1=>v_=slV lq (2:Int).toNat xq.length 1∧p_=[]|2=>v_=.agg #[jI m2.ins,m2.sv,m2.av,m2.ov]∧p_=[]|3=>(fun u_ p_=>∃ls:List Int,p_=[rI9 3 u_ ls]∧ls.length=m2.cnt.toNat) v_ p_|4=>v_=jI z2∧p_=[]|5=>(fun u_ p_=>∃ys:List Int,p_=[rI9 3 u_ ys]∧(∀y∈ys,y∈(xq.drop (2:Int).toNat)∨y=z2)∧1≤ys.length∧ys.length≤(xq.drop (2:Int).toNat).length+1) v_ p_|_=>True) (List.take_append_drop 6 _).symm (by kernel_rfl) (by kernel_rfl) A A ?_ ?_
 refine⟨?_,?_,?_,?_,?_,?_,trivial⟩
 intro vf pf hR
 exact fX A (aI [16] A) (aT (aK A))
 intro vf pf hR
 have e0:=hR 0 (by decide)
 exact eZ A (sk 135 (congrArg some e0.1) (aB _)) (aT (Cs A Tryz.underlying26 A A A (aG 3 A) (by omega) (by omega)))
 intro vf pf hR
 exact eZ A (aI [11] A) (aT (aF (cs:=[jI m2.ins,m2.sv,m2.av,m2.ov]) A A A A A (aD 4 A 0 A)))
 intro vf pf hR
 have e2:=hR 2 (by decide)
 exact eZ A (sk 137 (congrArg some e2.1) (aB _)) (aJ A A (fun w hm=>rL m2 w ((hp2b w (hm.holds _ (bX (i:=1) A))).rds (aG 0 A w hm)) g2.gr.ok))
 intro vf pf hR
 exact fX A (aI [19] A) (aT (aK A))
 intro vf pf hR
 have e1:=hR 1 (by decide)
 have e3:(fun u_ p_=>∃ls:List Int,p_=[rI9 3 u_ ls]∧ls.length=m2.cnt.toNat) (vf 3) (pf 3):=hR 3 (by decide)
 obtain⟨v52,vE3⟩:∃x,vf 3=x:=⟨_,rfl⟩
 obtain⟨p53,pE3⟩:∃x,pf 3=x:=⟨_,rfl⟩
 have R54:=e3
 rw[vE3,pE3] at R54
 obtain⟨ls54,rfl,lsl54⟩:=R54
 have e4:=hR 4 (by decide)
 refine Or.inl ⟨A,?_⟩
 exact bU (sk 136 (congrArg some e1.1) (sk 138 (congrArg some vE3) (sk 139 (congrArg some e4.1) (aB _)))) (by simp only[pE3,vE3,e1.2,e4.2,fS]<;>rfl) (aJ A A (fun w hm=>mP (xq.drop (2:Int).toNat) ls54 z2 _ _ w ((rd_slL (aG 4 A) (by omega)) w hm) ((aG 0 A) w hm) (by rw[lsl54,Int.toNat_of_nonneg (by omega)];exact hxd) (by rw[lsl54,Int.toNat_of_nonneg (by omega)];exact hz2) (by omega) (by first|omega|(rw[List.length_drop];omega))))
 intro vf pf hR
 have e3:(fun u_ p_=>∃ls:List Int,p_=[rI9 3 u_ ls]∧ls.length=m2.cnt.toNat) (vf 3) (pf 3):=hR 3 (by decide)
 obtain⟨v52,vE3⟩:∃x,vf 3=x:=⟨_,rfl⟩
 obtain⟨p53,pE3⟩:∃x,pf 3=x:=⟨_,rfl⟩
 have R54:=e3
 rw[vE3,pE3] at R54
 obtain⟨ls54,rfl,lsl54⟩:=R54
 have e5:(fun u_ p_=>∃ys:List Int,p_=[rI9 3 u_ ys]∧(∀y∈ys,y∈(xq.drop (2:Int).toNat)∨y=z2)∧1≤ys.length∧ys.length≤(xq.drop (2:Int).toNat).length+1) (vf 5) (pf 5):=hR 5 (by decide)
 obtain⟨v55,vE5⟩:∃x,vf 5=x:=⟨_,rfl⟩
 obtain⟨p56,pE5⟩:∃x,pf 5=x:=⟨_,rfl⟩
 have R57:=e5
 rw[vE5,pE5] at R57
 obtain⟨ys57,rfl,ym57,yn57,yl57⟩:=R57
 have q0:=hR 0 (by decide)
 have q1:=hR 1 (by decide)
 have q2:=hR 2 (by decide)
 have q4:=hR 4 (by decide)
 refine cE (bO [132,119,107,95,85,51,36,22,19,18,16,13,12,11,5,4,3,2,1,0] _ (sk 140 (congrArg some vE5) (aB _)) A) (by simp only[pE3,vE3,pE5,vE5,q0.2,q1.2,q2.2,q4.2,fS]<;>rfl) ?_
 simp only[List.drop_succ_cons,List.drop_zero]
 refine dJ 1 A (cX ?_)
 refine aZ 15 [14,13,12,11,10,3,8,2,6,1] A A (by decide) ?_
 exact eD m2 ps2b ys57 v55 ⟨g2.gr.ok,hsk2b,by omega,hp2b,⟨o1p,o2p,o3p⟩,fun x hx=>by rcases ym57 x hx with hx|hx;exact hxd x hx;rw[hx];exact hz2,yn57,by omega⟩ (by omega) (cT rfl) (dS rfl)
 refine bR (aS A ?_)
 refine bM (dI ?_)
 refine aO (bF (bZ 3 A (aP A (dF 1 A A A A (aG 0 A)) (aP A (bG (u:=jI (xq.getD 0 0)) A A A (aG 0 A) (eS (show _<xq.length by omega))) (aP A (dF 1 A A A A (aG 3 A)) ?_)))))
 refine eN (i:=3) (n':=(tq.set (kw.toNat) (xq.getD 0 0)).length) (xs':=(mI (tq.set (kw.toNat) (xq.getD 0 0)))) A A A A A A A A (by first|omega|(simp only[List.length_set];omega)) List.length_set.symm (fB _ _ _) A (dB (cK (bZ 1 A (aP A (dM A A A) (dJ 1 A ?_)))))
 exact cG (kw+1) ⟨o2,CRow.mk v28 (tq.set (kw.toNat) (xq.getD 0 0)),ps2⟩ ⟨by omega,by omega,ho2,hsk2,(hmkA.up hle2).setA (hxq _ (bS (d:=(0:Int)) (by omega))),hps2,⟨o1q,o2q,o3q⟩⟩ (by omega) (cT A) (eJ [1,0,0,0,0,0,0,0,0] A)
 refine aU 1 A (aR A ?_)
 refine bM (gF ?_)
 refine aO (bF (bZ 1 A (aP A (dM A A A) (dJ 1 A ?_))))
 exact cG (kw+1) ⟨q.o,CRow.mk v28 tq,q.ps⟩ ⟨by omega,by omega,ho,hsk,hmkA,hps,⟨o1o,o2o,o3o⟩⟩ (by omega) (cT A) (eJ [1,0,0,0,0,0,0,0,0] A)
 refine bR (aS A ?_)
 refine bM (dI ?_)
 refine aO (bF (cF ?_))
 refine iR 9 [8,7,6,5,4,0,3,2,1] A A (by decide) ?_
 refine pV 3 A ?_
 refine aP A (aF (cs:=[jI q.o.ins,q.o.sv,q.o.av,q.o.ov]) A A A A A (aD 1 A 0 A)) (aP A (aF (cs:=[jI m.ins,m.sv,m.av,m.ov]) A A A A A (aD 3 A 0 A)) (aM 1 A ?_))
 refine gK (R:=(fun u_ p_=>∃(ps:List HP) (k:Nt),u_=k.agg∧p_=bigE ps∧(∀w,(bigE ps).holds w→RdsNt w k)∧(k.sv.oneCell'=true∧k.av.oneCell'=true∧k.ov.oneCell'=true)∧NtOk k∧Skel m k∧k.gs.length≤q.o.gs.length)) 0 A A A A A (fun L w hX hm=>qT m q.o q.tr.xs q.tr.v q.ps _ _ w hm (fun w9 h9=>hph w9 ((hX w9 h9).holds _ (bX (i:=3) A))) ⟨o1m,o2m,o3m⟩ hmo ho hsk (by rwa [show kw=m.cnt by omega] at hmk) hps ⟨o1o,o2o,o3o⟩) ?_
 intro v58 p59 R60
 obtain⟨rs,m3,rfl,rfl,hrs,⟨o1r,o2r,o3r⟩,hm3,hs3,hl3⟩:=R60
 refine eC (l':=[bigE rs,nB9 b24 q.o,rS9 4 1 (.slice (some ⟨g7,0,none⟩) ((List.replicate m.cnt.toNat bl0).length) ((List.replicate m.cnt.toNat bl0).length)) z3 blC,nB9 b6 m,bigE ph,eB9 b2,nB9 b1 n]) A ?_
 refine bI (cs':=#[jI m3.ins,m3.sv,m3.av,m3.ov]) (i:=5) (off:=0) (us:=[jI m3.ins,m3.sv,m3.av,m3.ov]) A A A A A A A (aA A (aA o1r (aA o2r (aA o3r bA)))) A A A (bR ?_)
 exact aV (bV (rs:=[.cell 2 28]) (vs:=[.agg #[jI m3.ins,m3.sv,m3.av,m3.ov]]) (post:=[bigE rs]) A ⟨⟨b2,0,[jI m3.ins,m3.sv,m3.av,m3.ov],A,A,by kernel_rfl,by kernel_rfl,aD 5 A 0 A⟩,trivial⟩ A (eJ [0] A) ⟨_,m3,A,A,hrs,⟨o1r,o2r,o3r⟩,hm3⟩)
theorem sY {α:Type}{f:α→List Value}{s:Nat}(hf:∀a,(f a).length=s):∀(xs:List α) (k:Nat),(xs.flatMap f).take (k*s)=(xs.take k).flatMap f
  | [],k=>by simp
  | x::xs,0=>by simp
  | x::xs,k+1=>by
    rw[List.flatMap_cons,List.take_succ_cons,List.flatMap_cons,List.take_append,hf x,Nat.succ_mul,Nat.add_sub_cancel,sY hf xs k,List.take_of_length_le (by rw[hf x];omega)]
theorem sZ {α:Type}{f:α→List Value}{s:Nat}(hf:∀a,(f a).length=s):∀(xs:List α) (k:Nat),(xs.flatMap f).drop (k*s)=(xs.drop k).flatMap f
  | [],k=>by simp
  | x::xs,0=>by simp
  | x::xs,k+1=>by
    rw[List.flatMap_cons,List.drop_succ_cons,List.drop_append,hf x,Nat.succ_mul,Nat.add_sub_cancel,sZ hf xs k,List.drop_of_length_le (by rw[hf x];omega),List.nil_append]
theorem Eb {α:Type}(f:α→List Value) (xs ys:List α):xs.flatMap f++ys.flatMap f=(xs++ys).flatMap f:=List.flatMap_append.symm
theorem Fe {w0:World}{l:List HP}{α:Type}{f:α→List Value}{s:Nat}(hf:∀a,(f a).length=s) {v:Value}{xs:List α}(h:Rd w0 l v s xs.length (xs.flatMap f)) {k:Nat}(hk:k≤xs.length):Rd w0 l (slV v 0 k s) s (xs.take k).length ((xs.take k).flatMap f):=fun w hm=>by
  have:=yA (h w hm) (Nat.zero_le k) hk
  simp only[Nat.sub_zero,Nat.zero_mul,List.drop_zero] at this
  rw[sY hf] at this
  rw[List.length_take,Nat.min_eq_left hk];exact this
theorem Fd {w0:World}{l:List HP}{α:Type}{f:α→List Value}{s:Nat}(hf:∀a,(f a).length=s) {v:Value}{xs:List α}(h:Rd w0 l v s xs.length (xs.flatMap f)) {k:Nat}(hk:k≤xs.length):Rd w0 l (slV v k xs.length s) s (xs.drop k).length ((xs.drop k).flatMap f):=fun w hm=>by
  have:=yA (h w hm) hk (Nat.le_refl _)
  rw[sZ hf,List.take_of_length_le (by
    have h2:∀(ys:List α),(ys.flatMap f).length=ys.length*s:=fun ys=>by induction ys with|nil=>simp|cons y ys ih=>rw[List.flatMap_cons,List.length_append,ih,hf,List.length_cons,Nat.succ_mul];omega
    rw[h2,List.length_drop];exact Nat.le_refl _)] at this
  rw[List.length_drop];exact this
def CbR (cs:List An):Prop:=cs.length≤256∧∀k,(0≤(cs.getD k an0).a∧(cs.getD k an0).a≤15)∧0≤(cs.getD k an0).b∧(cs.getD k an0).b≤15
theorem cb_nil {d:An}:∀k,([]:List An).getD k an0=an0:=fun k=>by rw[List.getD_eq_getElem?_getD];rfl
theorem cb_app {cs:List An}{c:An}(h:∀k,(0≤(cs.getD k an0).a∧(cs.getD k an0).a≤15)∧0≤(cs.getD k an0).b∧(cs.getD k an0).b≤15) (hc:(0≤c.a∧c.a≤15)∧0≤c.b∧c.b≤15):∀k,(0≤((cs++[c]).getD k an0).a∧((cs++[c]).getD k an0).a≤15)∧0≤((cs++[c]).getD k an0).b∧((cs++[c]).getD k an0).b≤15:=fun k=>by
  by_cases hl:k<cs.length
  · rw[fZ hl];exact h k
  · by_cases he : k < (cs ++ [c]).length
    · rw [List.length_append, List.length_singleton] at he
      rw[fK (by omega),show k-cs.length=0 by omega];exact hc
    · rw[List.getD_eq_getElem?_getD,List.getElem?_eq_none (by omega)];exact⟨by decide,by decide⟩
theorem cb_sub {cs ds:List An}(h:CbR cs) (hl:ds.length≤cs.length) (hm:∀d∈ds,d∈cs):CbR ds:=⟨by have:=h.1;omega,fun k=>by
  by_cases hk:k<ds.length
  · obtain ⟨j, hj, e⟩ := List.mem_iff_getElem.1 (hm _ (bS (d := an0) hk))
    have:=h.2 j
    rw[List.getD_eq_getElem?_getD,List.getElem?_eq_getElem hj] at this
    rw[←e];exact this
  · rw[List.getD_eq_getElem?_getD,List.getElem?_eq_none (by omega)];exact⟨by decide,by decide⟩⟩
theorem El {cs:List An}{k m:Nat}(h:CbR cs) (hk:k<cs.length) (hm:m=k+1):CbR (cs.take k++cs.drop m)∧(cs.take k++cs.drop m).length=cs.length-1:=by
  subst hm
  have hl:(cs.take k++cs.drop (k+1)).length=cs.length-1:=by rw[List.length_append,List.length_take,List.length_drop];omega
  exact⟨cb_sub h (by omega) (fun d hd=>(List.mem_append.1 hd).elim List.mem_of_mem_take List.mem_of_mem_drop),hl⟩
section
variable {N:Nat}{w0:World}{l:List HP}{env:List (Nat×Value)}{o:Oper}
theorem rv_eqT {x y:Operand}{a b c d:Int}(ho:o.op=.binOp .eql 111 x y 111) (hx:ev env x=some (.agg #[.int .i64 a,.int .i64 b])) (hy:ev env y=some (.agg #[.int .i64 c,.int .i64 d])) :
    RunV Tryz.prog N w0 l env o (.bool (eqA a b c d)):=fun a1 w st=>by
  have hg:(eqGuard .eql 111 x y (.agg #[.int .i64 a,.int .i64 b]) (.agg #[.int .i64 c,.int .i64 d])).run Tryz.prog w=.ok () w:=run_eqGuard_agg _ _ _ _ _ _ _ (by kernel_rfl)
  have h2:(binOp .eql 111 (.agg #[.int .i64 a,.int .i64 b]) (.agg #[.int .i64 c,.int .i64 d])).run Tryz.prog w=.ok (.bool (eqA a b c d)) w:=by
    rw[run_eql_struct,run_equalIn_struct _ _ _ _ _ (by kernel_rfl) (by kernel_rfl)]
    have e0:(Tryz.prog.fieldsOf 111).toList=[(Tryz.prog.fieldsOf 111)[0]!,(Tryz.prog.fieldsOf 111)[1]!]:=by kernel_rfl
    have n0:((Tryz.prog.fieldsOf 111)[0]!).name = "N":=by kernel_rfl
    have n1:((Tryz.prog.fieldsOf 111)[1]!).name = "Bits":=by kernel_rfl
    have t0:((Tryz.prog.fieldsOf 111)[0]!).type=3:=by kernel_rfl
    have t1:((Tryz.prog.fieldsOf 111)[1]!).type=3:=by kernel_rfl
    have o0:((Tryz.prog.fieldsOf 111)[0]!).offset=0:=by kernel_rfl
    have o1:((Tryz.prog.fieldsOf 111)[1]!).offset=1:=by kernel_rfl
    rw[e0]
    generalize (Tryz.prog.fieldsOf 111)[0]! = f0 at *
    generalize (Tryz.prog.fieldsOf 111)[1]! = f1 at *
    have m0:f0.name≠"_":=by rw[n0];decide
    have m1:f1.name≠"_":=by rw[n1];decide
    have hk:Tryz.prog.plainKey 3=true:=by kernel_rfl
    have q:∀(u v:Int) (w:World),(Op.equalIn 9999 3 (.int .i64 u) (.int .i64 v)).run Tryz.prog w=.ok (u==v) w:=fun u v w=>run_equalIn_int w 9998 3 .i64 .i64 u v Tryz.underlying3
    have pa:∀w:World,(part f0.type #[Value.int .i64 a,.int .i64 b] f0.offset).run Tryz.prog w=.ok (.int .i64 a) w:=fun w=>by rw[t0,o0];exact run_part_plain w hk rfl
    have pb:∀w:World,(part f1.type #[Value.int .i64 a,.int .i64 b] f1.offset).run Tryz.prog w=.ok (.int .i64 b) w:=fun w=>by rw[t1,o1];exact run_part_plain w hk rfl
    have pc:∀w:World,(part f0.type #[Value.int .i64 c,.int .i64 d] f0.offset).run Tryz.prog w=.ok (.int .i64 c) w:=fun w=>by rw[t0,o0];exact run_part_plain w hk rfl
    have pd:∀w:World,(part f1.type #[Value.int .i64 c,.int .i64 d] f1.offset).run Tryz.prog w=.ok (.int .i64 d) w:=fun w=>by rw[t1,o1];exact run_part_plain w hk rfl
    have q0:∀(u v:Int) (w:World),(Op.equalIn 9999 f0.type (.int .i64 u) (.int .i64 v)).run Tryz.prog w=.ok (u==v) w:=by rw[t0];exact q
    have q1:∀(u v:Int) (w:World),(Op.equalIn 9999 f1.type (.int .i64 u) (.int .i64 v)).run Tryz.prog w=.ok (u==v) w:=by rw[t1];exact q
    simp only[Op.eqFields,m0,m1,ne_eq,not_false_eq_true,if_true,Sem.run_bind,pa,pb,pc,pd,q0,q1,Result.andThen_ok,Sem.run_ite,Sem.run_pure]
    unfold eqA
    cases (a==c)<;>cases (b==d)<;>simp
  simp[execOp,ho,st.eval hx,st.eval hy,hg,h2]
end
def bolOf (v:Value):Bool:=match v with | .bool b=>b|_=>false
theorem xL (n:Int) (c:An) (w:World) (hn:0≤n∧n≤4) (hc:(0≤c.a∧c.a≤15)∧0≤c.b∧c.b≤15) :
   Calls Tryz.prog 112 #[.int .i64 n,.agg #[.int .i64 c.a,.int .i64 c.b]] w (Ret w (fun u_ p_=>∃b_:Bool,u_=.bool b_∧p_=[])):=by
 have hp:=lL hn
 refine bN (N:=31) (args:=[jI n,.agg #[jI c.a,jI c.b]]) Tryz.func112 A A (cF ?_)
 refine cR A (cN A A) ?_
 intro b1
 refine aU 1 A (aC ?_)
 rcases Bool.eq_false_or_eq_true (inR n 0 4) with hb2|hb2
 rcases Bool.eq_false_or_eq_true (inR c.a 0 ((pn_o n:Int)-1)) with hb3|hb3
 rcases Bool.eq_false_or_eq_true (inR c.b 0 ((pn_o n:Int)-1)) with hb4|hb4
 rcases Bool.eq_false_or_eq_true ((bits .andNot .i64 c.b c.a)==0) with hb5|hb5
 have hb5p:bits .andNot .i64 c.b c.a=0:=beq_iff_eq.1 hb5
 refine cJ 26 [[],[0],[1],[2],[2,3],[2],[2,5],[2,6],[2,4,7],[2,8],[9],[10],[10,11],[10],[10,13],[10,14],[10,12,15],[10,16],[17],[18],[18,19],[18],[18,21],[18,20,22],[18,23],[18,24]] [5,6,7,8,9,10,11,12,13,14,15,16,17,18,19,20,21,22,23,24,25,26,27,28,29,30] [jI n,.bool true,.bool true,.pointer (some ⟨b1,0+0,none⟩),jI c.a,jI n,jI (pn_o n:Int),jI ((pn_o n:Int)-1),.bool true,.bool true,.bool true,.pointer (some ⟨b1,0+1,none⟩),jI c.b,jI n,jI (pn_o n:Int),jI ((pn_o n:Int)-1),.bool true,.bool true,.bool true,.pointer (some ⟨b1,0+1,none⟩),jI c.b,.pointer (some ⟨b1,0+0,none⟩),jI c.a,jI (bits .andNot .i64 c.b c.a),.bool true,.bool true] (by kernel_rfl) A ?_ ?_
 exact⟨bK A (aK A) A,.inl ⟨A,iH (aJ A A (fun w hm=>aY (dU n 0 4 w))) hb2⟩,bK A (aK A) A,bK A (cQ 0 A A A) A,bK A (aN A A A (aH 0 A A)) A,bK A (aK A) A,bK A (fY (k:=.i64) (kk:=.i64) (r:=(pn_o n:Int)) A A A A (by omega) (Ci hn)) A,bK A (iM A A A) A,.inl ⟨A,iH (aJ (by kernel_rfl) A (fun w hm=>aY (dU c.a 0 ((pn_o n:Int)-1) w))) hb3⟩,bK A (aK A) A,bK A (aK A) A,bK A (cQ 1 A A A) A,bK A (aN A A A (aH 0 A A)) A,bK A (aK A) A,bK A (fY (k:=.i64) (kk:=.i64) (r:=(pn_o n:Int)) A A A A (by omega) (Ci hn)) A,bK A (iM A A A) A,.inl ⟨A,iH (aJ (by kernel_rfl) A (fun w hm=>aY (dU c.b 0 ((pn_o n:Int)-1) w))) hb4⟩,bK A (aK A) A,bK A (aK A) A,bK A (cQ 1 A A A) A,bK A (aN A A A (aH 0 A A)) A,bK A (cQ 0 A A A) A,bK A (aN A A A (aH 0 A A)) A,bK A (cP A (by decide) A A (r:=bits .andNot .i64 c.b c.a) A) A,.inl ⟨A,eQ (dC A A A A) hb5⟩,bK A (aK A) A,trivial⟩
 simp only[List.drop_succ_cons,List.drop_zero]
 refine aU 1 A ?_
 exact aV (bV (rs:=[.tmp 4]) (vs:=[.bool true]) (post:=[]) A ⟨A,trivial⟩ A (List.nil_sublist _) ⟨_,A,A⟩)
 have hb5p:bits .andNot .i64 c.b c.a≠0:=beq_eq_false_iff_ne.1 hb5
 refine cJ 26 [[],[0],[1],[2],[2,3],[2],[2,5],[2,6],[2,4,7],[2,8],[9],[10],[10,11],[10],[10,13],[10,14],[10,12,15],[10,16],[17],[18],[18,19],[18],[18,21],[18,20,22],[18,23],[18,24]] [5,6,7,8,9,10,11,12,13,14,15,16,17,18,19,20,21,22,23,24,25,26,27,28,29,30] [jI n,.bool true,.bool true,.pointer (some ⟨b1,0+0,none⟩),jI c.a,jI n,jI (pn_o n:Int),jI ((pn_o n:Int)-1),.bool true,.bool true,.bool true,.pointer (some ⟨b1,0+1,none⟩),jI c.b,jI n,jI (pn_o n:Int),jI ((pn_o n:Int)-1),.bool true,.bool true,.bool true,.pointer (some ⟨b1,0+1,none⟩),jI c.b,.pointer (some ⟨b1,0+0,none⟩),jI c.a,jI (bits .andNot .i64 c.b c.a),.bool false,.bool false] (by kernel_rfl) A ?_ ?_
 exact⟨bK A (aK A) A,.inl ⟨A,iH (aJ A A (fun w hm=>aY (dU n 0 4 w))) hb2⟩,bK A (aK A) A,bK A (cQ 0 A A A) A,bK A (aN A A A (aH 0 A A)) A,bK A (aK A) A,bK A (fY (k:=.i64) (kk:=.i64) (r:=(pn_o n:Int)) A A A A (by omega) (Ci hn)) A,bK A (iM A A A) A,.inl ⟨A,iH (aJ (by kernel_rfl) A (fun w hm=>aY (dU c.a 0 ((pn_o n:Int)-1) w))) hb3⟩,bK A (aK A) A,bK A (aK A) A,bK A (cQ 1 A A A) A,bK A (aN A A A (aH 0 A A)) A,bK A (aK A) A,bK A (fY (k:=.i64) (kk:=.i64) (r:=(pn_o n:Int)) A A A A (by omega) (Ci hn)) A,bK A (iM A A A) A,.inl ⟨A,iH (aJ (by kernel_rfl) A (fun w hm=>aY (dU c.b 0 ((pn_o n:Int)-1) w))) hb4⟩,bK A (aK A) A,bK A (aK A) A,bK A (cQ 1 A A A) A,bK A (aN A A A (aH 0 A A)) A,bK A (cQ 0 A A A) A,bK A (aN A A A (aH 0 A A)) A,bK A (cP A (by decide) A A (r:=bits .andNot .i64 c.b c.a) A) A,.inl ⟨A,eQ (dC A A A A) hb5⟩,bK A (aK A) A,trivial⟩
 simp only[List.drop_succ_cons,List.drop_zero]
 refine aU 1 A ?_
 exact aV (bV (rs:=[.tmp 4]) (vs:=[.bool false]) (post:=[]) A ⟨A,trivial⟩ A (List.nil_sublist _) ⟨_,A,A⟩)
 refine cJ 26 [[],[0],[1],[2],[2,3],[2],[2,5],[2,6],[2,4,7],[2,8],[9],[10],[10,11],[10],[10,13],[10,14],[10,12,15],[10,16],[17],[18],[18],[18],[18],[18],[18],[18,24]] [5,6,7,8,9,10,11,12,13,14,15,16,17,18,19,20,21,22,23,24,25,26,27,28,29,30] [jI n,.bool true,.bool true,.pointer (some ⟨b1,0+0,none⟩),jI c.a,jI n,jI (pn_o n:Int),jI ((pn_o n:Int)-1),.bool true,.bool true,.bool true,.pointer (some ⟨b1,0+1,none⟩),jI c.b,jI n,jI (pn_o n:Int),jI ((pn_o n:Int)-1),.bool false,.bool false,.bool false,undef,undef,undef,undef,undef,undef,.bool false] (by kernel_rfl) A ?_ ?_
 exact⟨bK A (aK A) A,.inl ⟨A,iH (aJ A A (fun w hm=>aY (dU n 0 4 w))) hb2⟩,bK A (aK A) A,bK A (cQ 0 A A A) A,bK A (aN A A A (aH 0 A A)) A,bK A (aK A) A,bK A (fY (k:=.i64) (kk:=.i64) (r:=(pn_o n:Int)) A A A A (by omega) (Ci hn)) A,bK A (iM A A A) A,.inl ⟨A,iH (aJ (by kernel_rfl) A (fun w hm=>aY (dU c.a 0 ((pn_o n:Int)-1) w))) hb3⟩,bK A (aK A) A,bK A (aK A) A,bK A (cQ 1 A A A) A,bK A (aN A A A (aH 0 A A)) A,bK A (aK A) A,bK A (fY (k:=.i64) (kk:=.i64) (r:=(pn_o n:Int)) A A A A (by omega) (Ci hn)) A,bK A (iM A A A) A,.inl ⟨A,iH (aJ (by kernel_rfl) A (fun w hm=>aY (dU c.b 0 ((pn_o n:Int)-1) w))) hb4⟩,bK A (aK A) A,bK A (aK A) A,.inr ⟨A,A⟩,.inr ⟨A,A⟩,.inr ⟨A,A⟩,.inr ⟨A,A⟩,.inr ⟨A,A⟩,.inr ⟨A,A⟩,bK A (aK A) A,trivial⟩
 simp only[List.drop_succ_cons,List.drop_zero]
 refine aU 1 A ?_
 exact aV (bV (rs:=[.tmp 4]) (vs:=[.bool false]) (post:=[]) A ⟨A,trivial⟩ A (List.nil_sublist _) ⟨_,A,A⟩)
 refine cJ 26 [[],[0],[1],[2],[2,3],[2],[2,5],[2,6],[2,4,7],[2,8],[9],[10],[10],[10],[10],[10],[10],[10,16],[17],[18],[18],[18],[18],[18],[18],[18,24]] [5,6,7,8,9,10,11,12,13,14,15,16,17,18,19,20,21,22,23,24,25,26,27,28,29,30] [jI n,.bool true,.bool true,.pointer (some ⟨b1,0+0,none⟩),jI c.a,jI n,jI (pn_o n:Int),jI ((pn_o n:Int)-1),.bool false,.bool false,.bool false,undef,undef,undef,undef,undef,undef,.bool false,.bool false,undef,undef,undef,undef,undef,undef,.bool false] (by kernel_rfl) A ?_ ?_
 exact⟨bK A (aK A) A,.inl ⟨A,iH (aJ A A (fun w hm=>aY (dU n 0 4 w))) hb2⟩,bK A (aK A) A,bK A (cQ 0 A A A) A,bK A (aN A A A (aH 0 A A)) A,bK A (aK A) A,bK A (fY (k:=.i64) (kk:=.i64) (r:=(pn_o n:Int)) A A A A (by omega) (Ci hn)) A,bK A (iM A A A) A,.inl ⟨A,iH (aJ (by kernel_rfl) A (fun w hm=>aY (dU c.a 0 ((pn_o n:Int)-1) w))) hb3⟩,bK A (aK A) A,bK A (aK A) A,.inr ⟨A,A⟩,.inr ⟨A,A⟩,.inr ⟨A,A⟩,.inr ⟨A,A⟩,.inr ⟨A,A⟩,.inr ⟨A,A⟩,bK A (aK A) A,bK A (aK A) A,.inr ⟨A,A⟩,.inr ⟨A,A⟩,.inr ⟨A,A⟩,.inr ⟨A,A⟩,.inr ⟨A,A⟩,.inr ⟨A,A⟩,bK A (aK A) A,trivial⟩
 simp only[List.drop_succ_cons,List.drop_zero]
 refine aU 1 A ?_
 exact aV (bV (rs:=[.tmp 4]) (vs:=[.bool false]) (post:=[]) A ⟨A,trivial⟩ A (List.nil_sublist _) ⟨_,A,A⟩)
 refine cJ 26 [[],[0],[1],[2],[2],[2],[2],[2],[2],[2,8],[9],[10],[10],[10],[10],[10],[10],[10,16],[17],[18],[18],[18],[18],[18],[18],[18,24]] [5,6,7,8,9,10,11,12,13,14,15,16,17,18,19,20,21,22,23,24,25,26,27,28,29,30] [jI n,.bool false,.bool false,undef,undef,undef,undef,undef,undef,.bool false,.bool false,undef,undef,undef,undef,undef,undef,.bool false,.bool false,undef,undef,undef,undef,undef,undef,.bool false] (by kernel_rfl) A ?_ ?_
 exact⟨bK A (aK A) A,.inl ⟨A,iH (aJ A A (fun w hm=>aY (dU n 0 4 w))) hb2⟩,bK A (aK A) A,.inr ⟨A,A⟩,.inr ⟨A,A⟩,.inr ⟨A,A⟩,.inr ⟨A,A⟩,.inr ⟨A,A⟩,.inr ⟨A,A⟩,bK A (aK A) A,bK A (aK A) A,.inr ⟨A,A⟩,.inr ⟨A,A⟩,.inr ⟨A,A⟩,.inr ⟨A,A⟩,.inr ⟨A,A⟩,.inr ⟨A,A⟩,bK A (aK A) A,bK A (aK A) A,.inr ⟨A,A⟩,.inr ⟨A,A⟩,.inr ⟨A,A⟩,.inr ⟨A,A⟩,.inr ⟨A,A⟩,.inr ⟨A,A⟩,bK A (aK A) A,trivial⟩
 simp only[List.drop_succ_cons,List.drop_zero]
 refine aU 1 A ?_
 exact aV (bV (rs:=[.tmp 4]) (vs:=[.bool false]) (post:=[]) A ⟨A,trivial⟩ A (List.nil_sublist _) ⟨_,A,A⟩)
theorem qV (n:Int) (cs:List An) (v:Value) (w:World) (hn:0≤n∧n≤4) (hv:RdsW w v 2 cs.length (cs.flatMap anC)) (hcb:CbR cs) :
   Calls Tryz.prog 106 #[.int .i64 n,v] w (Ret w (fun u_ p_=>∃b_:Bool,u_=.bool b_∧p_=[])):=by
 obtain⟨hcl,hcr⟩:=id hcb
 refine bN (N:=27) (args:=[jI n,v]) Tryz.func106 A A (bD 1 A (aC (aC (bZ 1 A ?_))))
 refine dA A (aJ A A (fun w hm=>aY (dU n 0 4 w))) (bW (fun h1=>?_) (fun h1=>?_))
 refine aM 3 A (aP A (bC A Tryz.underlying113 A (aE hv)) ?_)
 refine fJ A A A A A A (fun h2=>?_) (fun h2=>?_)
 refine aU 1 A (aR A (bD 1 A ?_))
 refine aV (aL ?_)
 exact bV (rs:=[.tmp 4]) (vs:=[.bool false]) (post:=[]) A ⟨A,trivial⟩ A (List.nil_sublist _) ⟨_,A,A⟩
 refine aU 1 A (aS A (bY (aC (bD 1 A ?_))))
 refine bE ?_
 refine hO (α:=Nat) [0,1,4,13] A (fun i=>[]) (fun i=>[(5,jI (i:Int))]) (fun i=>i≤cs.length) (fun i=>cs.length-i) 0 (Nat.zero_le _) (cT A) (.slnil) ?_
 intro i hi3
 have hi:=hi3
 refine aC (aC (bZ 2 A (aP A (bC A Tryz.underlying113 A (aE hv)) ?_)))
 refine bQ A A A A A A (fun h4=>?_) (fun h4=>?_)
 refine bR (aR A (bY (fM (aC (bZ 3 A (aP A (dF 2 A A A A (aE hv)) ?_))))))
 refine aP A (eI (us:=[jI ((cs.getD i an0).a),jI ((cs.getD i an0).b)]) A A A A (aE hv) (by omega) A (fC anC 2 (fun _=>A) cs an0 (show i<_ by omega) A)) (eB A A A (aJ A A (fun w hm=>xL n (cs.getD i an0) w hn (hcr i))) ?_)
 intro v5 p6 R7
 obtain⟨c7,rfl,rfl⟩:=R7
 refine aM 1 A (bW (fun h8=>?_) (fun h8=>?_))
 refine bR (aR A (bD 1 A ?_))
 refine aV (aQ ?_)
 refine fL ?_
 refine aQ (aL ?_)
 exact bV (rs:=[.tmp 4]) (vs:=[.bool false]) (post:=[]) A ⟨A,trivial⟩ A (List.nil_sublist _) ⟨_,A,A⟩
 refine bR (hH A (cK (bZ 1 A (aP A (dM A A A) (dJ 1 A ?_)))))
 exact cU (i+1) (by omega) (by omega) (cT A) (.slnil)
 refine bR (aS A ?_)
 refine bM (dI ?_)
 refine aO (bF (bD 1 A ?_))
 exact aV (bV (rs:=[.tmp 4]) (vs:=[.bool true]) (post:=[]) A ⟨A,trivial⟩ A (List.nil_sublist _) ⟨_,A,A⟩)
 refine aU 6 A (aR A (bD 1 A ?_))
 refine aV (aL ?_)
 exact bV (rs:=[.tmp 4]) (vs:=[.bool false]) (post:=[]) A ⟨A,trivial⟩ A (List.nil_sublist _) ⟨_,A,A⟩
theorem rV (n:Int) (cs:List An) (k0:Int) (v:Value) (w:World) (hn:0≤n∧n≤4) (hv:RdsW w v 2 cs.length (cs.flatMap anC)) (hcb:CbR cs) :
   Calls Tryz.prog 104 #[.int .i64 n,v,.int .i64 k0] w (Ret w (fun u_ p_=>∃b:Int,u_=.agg #[.int .i64 n,.int .i64 b]∧p_=[])):=by
 obtain⟨hcl,hcr⟩:=id hcb
 have hp:=lL hn
 refine bN (N:=49) (args:=[jI n,v,jI k0]) Tryz.func104 A A (cF ?_)
 refine cR A (bP (z:=.agg #[jI 0,jI 0]) A A) ?_
 intro b1
 refine bR (aC (bZ 1 A (aP A (dQ (cs:=#[jI n,jI 0]) A A A) ?_)))
 refine cR A (bP (z:=.agg #[jI 0,jI 0]) A A) ?_
 intro b2
 refine bI (cs':=#[jI n,jI 0]) (i:=0) (off:=0) (us:=[jI n,jI 0]) A A A A A A A (aA A (aA A bA)) A A A (bR (aC (bD 1 A (bE ?_))))
 refine gT (α:=Nat) (β:=Int) [0,1,2,6,7] A (fun i b=>[boxE b2 #[jI n,jI b] 111,boxE b1 #[jI 0,jI 0] 111]) (fun i b=>[(8,jI (i:Int))]) (fun i b=>i≤pn_o n∧0≤b∧b<2 ^ i) (fun i b=>pn_o n-i) 0 0 ⟨Nat.zero_le _,Int.le_refl _,by decide⟩ (cT A) (dS A) ?_
 intro i b hi3
 obtain⟨hi,hb0,hb1⟩:=hi3
 have hp16:=sM (k:=i) (by omega)
 refine aC (aC (bJ (aM 2 A (aP A (fY (k:=.i64) (kk:=.i64) (r:=(pn_o n:Int)) A A A A (by omega) (Ci hn)) ?_))))
 refine bQ A A A A A A (fun h4=>?_) (fun h4=>?_)
 refine bR (aR A (bY (fM (bD 1 A ?_))))
 refine bE ?_
 refine hO (α:=Nat) [0,1,2,6,7,8,15] A (fun k=>[boxE b2 #[jI n,jI b] 111,boxE b1 #[jI 0,jI 0] 111]) (fun k=>[(9,jI (k:Int))]) (fun k=>k≤cs.length) (fun k=>cs.length-k) 0 (Nat.zero_le _) (cT A) (dS A) ?_
 intro k hi5
 have hk:=hi5
 refine aC (aC (bZ 2 A (aP A (bC A Tryz.underlying113 A (aE hv)) ?_)))
 refine bQ A A A A A A (fun h6=>?_) (fun h6=>?_)
 refine bR (aR A (bY (fM (aC ?_))))
 rcases Bool.eq_false_or_eq_true ((k:Int) != k0) with hb7|hb7
 have hb7p:(k:Int)≠k0:=bne_iff_ne.1 hb7
 refine cJ 18 [[],[],[0,1],[2],[3],[3],[3],[3,5,6],[3,7],[3,8],[3,4,9],[3],[3],[3,11,12],[3,13],[3,14],[3,10,15],[3,16]] [24,25,26,27,28,29,30,31,32,33,34,35,36,37,38,39,40,41] [jI (k:Int),jI k0,.bool true,.bool true,jI (i:Int),v,jI (k:Int),elP v ((k:Int).toNat*2),elP v ((k:Int).toNat*2+0),jI ((cs.getD k an0).a),jI (bits .and .i64 (i:Int) ((cs.getD k an0).a)),v,jI (k:Int),elP v ((k:Int).toNat*2),elP v ((k:Int).toNat*2+1),jI ((cs.getD k an0).b),.bool ((bits .and .i64 (i:Int) ((cs.getD k an0).a))==((cs.getD k an0).b)),.bool ((bits .and .i64 (i:Int) ((cs.getD k an0).a))==((cs.getD k an0).b))] (by kernel_rfl) A ?_ ?_
 exact⟨bK A (aK A) A,bK A (aK A) A,.inl ⟨A,eQ (dC A A A A) hb7⟩,bK A (aK A) A,bK A (aK A) A,bK A (aK A) A,bK A (aK A) A,bK A (dF 2 A A A A (aE hv)) A,bK A (cC (k0:=0) A A A (aE hv) (by omega)) A,bK A (bG (u:=jI ((cs.getD k an0).a)) A A A (aE hv) ((dE anC 2 (fun _=>A) cs an0 (show k<_ by omega) (by decide)).trans A)) A,bK A (cP A (by decide) A A (r:=bits .and .i64 (i:Int) ((cs.getD k an0).a)) A) A,bK A (aK A) A,bK A (aK A) A,bK A (dF 2 A A A A (aE hv)) A,bK A (cC (k0:=1) A A A (aE hv) (by omega)) A,bK A (bG (u:=jI ((cs.getD k an0).b)) A A A (aE hv) ((dE anC 2 (fun _=>A) cs an0 (show k<_ by omega) (by decide)).trans A)) A,bK A (dC A A A A) A,bK A (aK A) A,trivial⟩
 simp only[List.drop_succ_cons,List.drop_zero]
 refine bR ?_
 refine fU A (fun h8=>?_) (fun h8=>?_)
 have h8p:bits .and .i64 (i:Int) ((cs.getD k an0).a)=(cs.getD k an0).b:=beq_iff_eq.1 h8
 refine aC ?_
 refine cJ 6 [[],[0],[],[2],[1,3],[]] [42,43,44,45,46,47] [.pointer (some ⟨b2,0+1,none⟩),jI b,jI (i:Int),jI (1*2 ^ i),jI (b+(1*2 ^ i)),.pointer (some ⟨b2,0+1,none⟩)] (by kernel_rfl) A ?_ ?_
 exact⟨bK A (cQ 1 A A A) A,bK A (aN A A A (aH 0 A A)) A,bK A (aK A) A,bK A (fY (k:=.i64) (kk:=.i64) (r:=1*2 ^ i) A A A A (by omega) (lI (.inr A) (by omega))) A,bK A (oI A A A (by have hp17:=sM (k:=i) (by omega);constructor<;>omega)) A,bK A (cQ 1 A A A) A,trivial⟩
 simp only[List.drop_succ_cons,List.drop_zero]
 refine fI (i:=0) (cs':=#[jI n,jI (b+(1*2 ^ i))]) A A A A A A A A A A A (bR ?_)
 refine bM (mU A ?_)
 refine dI ?_
 refine aO (cK (bZ 1 A (aP A (dM A A A) (dJ 1 A ?_))))
 exact cG (i+1) (b+(1*2 ^ i)) ⟨by omega,(mG ⟨hb0,hb1⟩ (.inr A)).1,(mG ⟨hb0,hb1⟩ (.inr A)).2⟩ (by omega) (cT A) (dS A)
 have h8p:bits .and .i64 (i:Int) ((cs.getD k an0).a)≠(cs.getD k an0).b:=beq_eq_false_iff_ne.1 h8
 refine fP (cK (bZ 1 A (aP A (dM A A A) (dJ 1 A ?_))))
 exact cU (k+1) (by omega) (by omega) (cT A) (dS A)
 have hb7p:(k:Int)=k0:=(bne_eq_false_iff_eq.1 hb7)
 refine cJ 18 [[],[],[0,1],[2],[3],[3],[3],[3],[3],[3],[3],[3],[3],[3],[3],[3],[3],[3,16]] [24,25,26,27,28,29,30,31,32,33,34,35,36,37,38,39,40,41] [jI (k:Int),jI k0,.bool false,.bool false,undef,undef,undef,undef,undef,undef,undef,undef,undef,undef,undef,undef,undef,.bool false] (by kernel_rfl) A ?_ ?_
 exact⟨bK A (aK A) A,bK A (aK A) A,.inl ⟨A,eQ (dC A A A A) hb7⟩,bK A (aK A) A,.inr ⟨A,A⟩,.inr ⟨A,A⟩,.inr ⟨A,A⟩,.inr ⟨A,A⟩,.inr ⟨A,A⟩,.inr ⟨A,A⟩,.inr ⟨A,A⟩,.inr ⟨A,A⟩,.inr ⟨A,A⟩,.inr ⟨A,A⟩,.inr ⟨A,A⟩,.inr ⟨A,A⟩,.inr ⟨A,A⟩,bK A (aK A) A,trivial⟩
 simp only[List.drop_succ_cons,List.drop_zero]
 refine bR (hH A (cK (bZ 1 A (aP A (dM A A A) (dJ 1 A ?_)))))
 exact cU (k+1) (by omega) (by omega) (cT A) (dS A)
 refine bR (aS A ?_)
 refine bM (dI ?_)
 refine aO (cK (bZ 1 A (aP A (dM A A A) (dJ 1 A ?_))))
 exact cG (i+1) b ⟨by omega,by omega,by rw[Int.pow_succ];omega⟩ (by omega) (cT rfl) (dS rfl)
 refine bR (aS A ?_)
 refine bM (dI ?_)
 refine aO (bF (cF (aP A (aF (cs:=[jI n,jI b]) A A A A A (aD 0 A 0 A)) ?_)))
 refine bI (cs':=#[jI n,jI b]) (i:=1) (off:=0) (us:=[jI n,jI b]) A A A A A A A (aA A (aA A bA)) A A A (bR ?_)
 exact aV (bV (rs:=[.cell 6 111]) (vs:=[.agg #[jI n,jI b]]) (post:=[]) A ⟨⟨b1,0,[jI n,jI b],A,A,by kernel_rfl,by kernel_rfl,aD 1 A 0 A⟩,trivial⟩ A (eJ [] A) ⟨b,A,A⟩)
theorem nU (t:Tab) (c:An) (w:World) (ht:TabOk t) :
   Calls Tryz.prog 111 #[.agg #[.int .i64 t.N,.int .i64 t.B],.agg #[.int .i64 c.a,.int .i64 c.b]] w (Ret w (fun u_ p_=>∃b_:Bool,u_=.bool b_∧p_=[])):=by
 obtain⟨hn,hB0,hB1⟩:=id ht
 have hp:=lL hn
 have hq:=oL hn
 refine bN (N:=28) (args:=[.agg #[jI t.N,jI t.B],.agg #[jI c.a,jI c.b]]) Tryz.func111 A A (cF ?_)
 refine cR A (cN A A) ?_
 intro b1
 refine cR A (cN A A) ?_
 intro b2
 refine aU 1 A (aC (bD 1 A (bE ?_)))
 refine hO (α:=Nat) [0,1,2,3,4] A (fun i=>[boxE b2 #[jI c.a,jI c.b] 127,boxE b1 #[jI t.N,jI t.B] 111]) (fun i=>[(5,jI (i:Int))]) (fun i=>i≤pn_o t.N) (fun i=>pn_o t.N-i) 0 (Nat.zero_le _) (cT A) (dS A) ?_
 intro i hi3
 have hi:=hi3
 refine aC (aC (bJ (aM 1 A (aP A (cQ 0 A A A) (aP A (aN A A A (aH 1 A A)) (aP A (fY (k:=.i64) (kk:=.i64) (r:=(pn_o t.N:Int)) A A A A (by omega) (Ci hn)) ?_))))))
 refine bQ A A A A A A (fun h4=>?_) (fun h4=>?_)
 refine(dB (bF (aR A (fP (bF (aC (bE (aC (bJ (aM 1 A (aP A (cQ 0 A A A) (aP A (aN A A A (aH 0 A A)) (aP A (cP A (by decide) A A (r:=bits .and .i64 (i:Int) c.a) A) ?_)))))))))))))
 refine aP A (cQ 1 A A A) (aP A (aN A A A (aH 0 A A)) ?_)
 refine cM A A A A A A (fun h5=>?_) (fun h5=>?_)
 refine aM 1 A (aP A (cQ 1 A A A) (aP A (aN A A A (aH 1 A A)) (aM 1 A (aP A (iO A A A (by omega)) (aP A (cP A (by decide) A A (r:=(t.B / 2 ^ ((i:Int):Int).toNat) % 2) (zE _ (by omega))) ?_)))))
 refine cM A A A A A A (fun h6=>?_) (fun h6=>?_)
 refine aU 1 A (aR A (bD 1 A ?_))
 refine aV (aQ ?_)
 refine fL ?_
 refine aQ (aL ?_)
 exact bV (rs:=[.tmp 4]) (vs:=[.bool false]) (post:=[]) A ⟨A,trivial⟩ A (List.nil_sublist _) ⟨_,A,A⟩
 refine aU 1 A (hH A (cK (bZ 1 A (aP A (dM A A A) (dJ 1 A ?_)))))
 exact cU (i+1) (by omega) (by omega) (cT A) (dS A)
 refine aU 8 A (hH A (cX ?_))
 refine bF (bZ 1 A (aP A (dM A A A) (dJ 1 A ?_)))
 exact cU (i+1) (by omega) (by omega) (cT A) (dS A)
 refine bR (aS A ?_)
 refine bM (dI ?_)
 refine aO (bF (bD 1 A ?_))
 exact aV (bV (rs:=[.tmp 4]) (vs:=[.bool true]) (post:=[]) A ⟨A,trivial⟩ A (List.nil_sublist _) ⟨_,A,A⟩)
theorem zF (t:Tab) (w:World) (ht:TabOk t) :
   Calls Tryz.prog 102 #[.agg #[.int .i64 t.N,.int .i64 t.B]] w (Ret w (fun u_ p_=>∃cs:List An,p_=[rS9 127 2 u_ cs anC]∧CbR cs)):=by
 obtain⟨hn,hB0,hB1⟩:=id ht
 have hp:=lL hn
 have hq:=oL hn
 refine bN (N:=71) (args:=[.agg #[jI t.N,jI t.B]]) Tryz.func102 A A (cF ?_)
 refine cR A (cN A A) ?_
 intro b1
 refine aU 1 A (cF ?_)
 refine dP A (dH (s:=2) A Tryz.underlying113 A) ?_
 intro g2
 refine aU 1 A (eP (aP A (aF (cs:=[jI t.N,jI t.B]) A A A A A (aD 1 A 0 A)) ?_))
 refine dA A (aJ A A (fun w hm=>aY (iU t w ht))) (aU 1 A (aS A (bY (aC (bD 1 A ?_)))))
 refine bE (fE [rowE 127 2 (.slice (some ⟨g2,0,none⟩) 0 0) (([]:List An).length) (([]:List An).flatMap anC),boxE b1 #[jI t.N,jI t.B] 111] (fun w hm=>hm) ?_)
 refine iC (α:=Nat) (β:=List An) (γ:=Value) [0,1,2,12] rfl (fun c cs u=>[rS9 127 2 u cs anC,boxE b1 #[jI t.N,jI t.B] 111]) (fun c cs u=>[(3,u),(4,jI (c:Int))]) (fun c cs u=>c≤pn_o t.N∧cs.length≤16*c∧∀k,(0≤(cs.getD k an0).a∧(cs.getD k an0).a≤15)∧0≤(cs.getD k an0).b∧(cs.getD k an0).b≤15) (fun c cs u=>pn_o t.N-c) 0 [] _ ⟨Nat.zero_le _,Nat.zero_le _,fun k=>by rw[cb_nil (d:=an0)];exact⟨by decide,by decide⟩⟩ (cT rfl) (dS rfl) ?_
 intro c cs u hi3
 obtain⟨hc,hcl,hcr⟩:=hi3
 refine aC (aC (bJ (aM 1 A (aP A (cQ 0 A A A) (aP A (aN A A A (aH 1 A A)) (aP A (fY (k:=.i64) (kk:=.i64) (r:=(pn_o t.N:Int)) A A A A (by omega) (Ci hn)) ?_))))))
 refine bQ A A A A A A (fun h4=>?_) (fun h4=>?_)
 refine bR (aR A (bY (fM (bD 1 A ?_))))
 refine bE ?_
 refine iC (α:=Nat) (β:=List An) (γ:=Value) [0,1,2,4,12,18] A (fun x vs gu=>[rS9 127 2 gu vs anC,boxE b1 #[jI t.N,jI t.B] 111]) (fun x vs gu=>[(3,gu),(5,jI (x:Int))]) (fun x vs gu=>x≤pn_o t.N∧vs.length≤16*c+x∧∀k,(0≤(vs.getD k an0).a∧(vs.getD k an0).a≤15)∧0≤(vs.getD k an0).b∧(vs.getD k an0).b≤15) (fun x vs gu=>pn_o t.N-x) 0 cs _ ⟨Nat.zero_le _,by omega,hcr⟩ (cT A) (dS A) ?_
 intro x vs gu hi5
 obtain⟨hx,hvl,hvr⟩:=hi5
 refine aC (aC (bJ (aM 1 A (aP A (cQ 0 A A A) (aP A (aN A A A (aH 1 A A)) (aP A (fY (k:=.i64) (kk:=.i64) (r:=(pn_o t.N:Int)) A A A A (by omega) (Ci hn)) ?_))))))
 refine bQ A A A A A A (fun h6=>?_) (fun h6=>?_)
 refine(dB (bF (aR A (fP (bF (aC (bE (aC (bJ (aM 2 A (aP A (dQ (cs:=#[jI (c:Int),jI (x:Int)]) A A A) ?_)))))))))))
 refine cR A (bP (z:=.agg #[jI 0,jI 0]) A A) ?_
 intro b7
 refine bI (cs':=#[jI (c:Int),jI (x:Int)]) (i:=0) (off:=0) (us:=[jI (c:Int),jI (x:Int)]) A A A A A A A (aA A (aA A bA)) A A A (dB (bF (aC (aC (bJ (aM 2 A (aP A (cP A (by decide) A A (r:=bits .andNot .i64 (x:Int) (c:Int)) A) ?_)))))))
 refine hQ A A A A A A (fun h8=>?_) (fun h8=>?_)
 refine aU 6 A (aR A ?_)
 refine bM (gF ?_)
 refine aO (bF (bZ 1 A (aP A (dM A A A) (dJ 1 A ?_))))
 exact cI (x+1) vs gu ⟨by omega,by omega,hvr⟩ (by omega) (cT A) (eJ [1,0] A)
 refine aM 1 A (aP A (aF (cs:=[jI t.N,jI t.B]) A A A A A (aD 2 A 0 A)) (aP A (aF (cs:=[jI (c:Int),jI (x:Int)]) A A A A A (aD 0 A 0 A)) ?_))
 refine eB A A A (aJ A A (fun w hm=>nU t (An.mk (c:Int) (x:Int)) w ht)) ?_
 intro v9 p10 R11
 obtain⟨c11,rfl,rfl⟩:=R11
 refine aM 1 A (bW (fun h12=>?_) (fun h12=>?_))
 refine aU 1 A (aR A ?_)
 refine bM (gF ?_)
 refine aO (bF (bZ 1 A (aP A (dM A A A) (dJ 1 A ?_))))
 exact cI (x+1) vs gu ⟨by omega,by omega,hvr⟩ (by omega) (cT A) (eJ [1,0] A)
 refine aU 1 A (aS A (bY (bD 1 A (aC ?_))))
 refine bD 1 A (bE ?_)
 refine gT (α:=Nat) (β:=Bool) [0,1,2,3,4,5,6,12,18,25,40] A (fun k pb=>[boxE b7 #[jI (c:Int),jI (x:Int)] 127,rS9 127 2 gu vs anC,boxE b1 #[jI t.N,jI t.B] 111]) (fun k pb=>[(7,.bool pb),(8,jI (k:Int))]) (fun k pb=>(k:Int)≤t.N) (fun k pb=>t.N.toNat-k) 0 true (by omega) (cT A) (dS A) ?_
 intro k pb hi13
 have hk:=hi13
 refine aC (aC (bZ 1 A (aP A (cQ 0 A A A) (aP A (aN A A A (aH 2 A A)) ?_))))
 refine bQ A A A A A A (fun h14=>?_) (fun h14=>?_)
 refine bR (aR A (bY (fM (aC ?_))))
 rcases Bool.eq_false_or_eq_true ((((c:Int) / 2 ^ ((k:Int):Int).toNat) % 2)==1) with hb15|hb15
 have hb15p:((c:Int) / 2 ^ ((k:Int):Int).toNat) % 2=1:=beq_iff_eq.1 hb15
 refine eV A 18 [0,1,2,3,4,5,6,7,8,9,10,11,12,13,14,15,16,17] (List.take 18 _) (List.drop 18 _) [[],[],[0,1],[2],[3],[4],[5],[5],[5],[5,8],[5,7,9],[5],[5],[5,12],[5,11,13],[5,10,14],[5,6,15],[5,16]] [47,48,49,50,51,52,53,54,55,56,57,58,59,60,61,62,63,64] (fun i_ vs_ v_ p_=>match i_ with|0=>v_=jI (c:Int)∧p_=[]|1=>v_=jI (k:Int)∧p_=[]|2=>v_=jI ((c:Int) / 2 ^ ((k:Int):Int).toNat)∧p_=[]|3=>v_=jI (((c:Int) / 2 ^ ((k:Int):Int).toNat) % 2)∧p_=[]|4=>v_=.bool true∧p_=[]|5=>v_=.bool true∧p_=[]|6=>v_=.agg #[jI t.N,jI t.B]∧p_=[]|7=>v_=jI (c:Int)∧p_=[]|8=>v_=jI (k:Int)∧p_=[]|9=>v_=jI (1*2 ^ k)∧p_=[]|10=>v_=jI (bits .andNot .i64 (c:Int) (1*2 ^ k))∧p_=[]|11=>v_=jI (x:Int)∧p_=[]|12=>v_=jI (k:Int)∧p_=[]|13=>v_=jI (1*2 ^ k)∧p_=[]|14=>v_=jI (bits .andNot .i64 (x:Int) (1*2 ^ k))∧p_=[]|15=>v_=.agg #[jI (bits .andNot .i64 (c:Int) (1*2 ^ k)),jI (bits .andNot .i64 (x:Int) (1*2 ^ k))]∧p_=[]|16=>(fun u_ p_=>∃b_:Bool,u_=.bool b_∧p_=[]) v_ p_|17=>v_=.bool (bolOf (gV9 vs_ 1))∧p_=[]|_=>True) (List.take_append_drop 18 _).symm (by kernel_rfl) (by kernel_rfl) A A ?_ ?_
 refine⟨?_,?_,?_,?_,?_,?_,?_,?_,?_,?_,?_,?_,?_,?_,?_,?_,?_,?_,trivial⟩
 intro vf pf hR
 exact fX A (aI [4] A) (aT (aK A))
 intro vf pf hR
 exact fX A (aI [8] A) (aT (aK A))
 intro vf pf hR
 have e0:=hR 0 (by decide)
 have e1:=hR 1 (by decide)
 exact fX A (sk 47 (congrArg some e0.1) (sk 48 (congrArg some e1.1) (aB _))) (aT (iO A A A (by omega)))
 intro vf pf hR
 have e2:=hR 2 (by decide)
 exact fX A (sk 49 (congrArg some e2.1) (aB _)) (aT (cP A (by decide) A A (r:=((c:Int) / 2 ^ ((k:Int):Int).toNat) % 2) (zE _ (by omega))))
 intro vf pf hR
 have e3:=hR 3 (by decide)
 exact fX A (sk 50 (congrArg some e3.1) (aB _)) (cD (aT (dC A A A A)) (fun _ _ h=>⟨h.1.trans (congrArg Value.bool hb15),h.2⟩))
 intro vf pf hR
 have e4:=hR 4 (by decide)
 exact fX A (sk 51 (congrArg some e4.1) (aB _)) (aT (aK A))
 intro vf pf hR
 have e5:=hR 5 (by decide)
 refine Or.inl ⟨dT (congrArg some e5.1) A,?_⟩
 exact aW (aI [1] A) (List.sublist_append_right _ _) (aT (aF (cs:=[jI t.N,jI t.B]) A A A A A (aD 2 A 0 A)))
 intro vf pf hR
 have e5:=hR 5 (by decide)
 refine Or.inl ⟨dT (congrArg some e5.1) A,?_⟩
 exact bH (aI [4] A) (aT (aK A))
 intro vf pf hR
 have e5:=hR 5 (by decide)
 refine Or.inl ⟨dT (congrArg some e5.1) A,?_⟩
 exact bH (aI [8] A) (aT (aK A))
 intro vf pf hR
 have e5:=hR 5 (by decide)
 have e8:=hR 8 (by decide)
 refine Or.inl ⟨dT (congrArg some e5.1) A,?_⟩
 exact bH (sk 55 (congrArg some e8.1) (aB _)) (aT (fY (k:=.i64) (kk:=.i64) (r:=1*2 ^ k) A A A A (by omega) (lI (.inr A) (by omega))))
 intro vf pf hR
 have e5:=hR 5 (by decide)
 have e7:=hR 7 (by decide)
 have e9:=hR 9 (by decide)
 refine Or.inl ⟨dT (congrArg some e5.1) A,?_⟩
 exact bH (sk 54 (congrArg some e7.1) (sk 56 (congrArg some e9.1) (aB _))) (aT (cP A (by decide) A A (r:=bits .andNot .i64 (c:Int) (1*2 ^ k)) A))
 intro vf pf hR
 have e5:=hR 5 (by decide)
 refine Or.inl ⟨dT (congrArg some e5.1) A,?_⟩
 exact bH (aI [5] A) (aT (aK A))
 intro vf pf hR
 have e5:=hR 5 (by decide)
 refine Or.inl ⟨dT (congrArg some e5.1) A,?_⟩
 exact bH (aI [8] A) (aT (aK A))
 intro vf pf hR
 have e5:=hR 5 (by decide)
 have e12:=hR 12 (by decide)
 refine Or.inl ⟨dT (congrArg some e5.1) A,?_⟩
 exact bH (sk 59 (congrArg some e12.1) (aB _)) (aT (fY (k:=.i64) (kk:=.i64) (r:=1*2 ^ k) A A A A (by omega) (lI (.inr A) (by omega))))
 intro vf pf hR
 have e5:=hR 5 (by decide)
 have e11:=hR 11 (by decide)
 have e13:=hR 13 (by decide)
 refine Or.inl ⟨dT (congrArg some e5.1) A,?_⟩
 exact bH (sk 58 (congrArg some e11.1) (sk 60 (congrArg some e13.1) (aB _))) (aT (cP A (by decide) A A (r:=bits .andNot .i64 (x:Int) (1*2 ^ k)) A))
 intro vf pf hR
 have e5:=hR 5 (by decide)
 have e10:=hR 10 (by decide)
 have e14:=hR 14 (by decide)
 refine Or.inl ⟨dT (congrArg some e5.1) A,?_⟩
 exact bH (sk 57 (congrArg some e10.1) (sk 61 (congrArg some e14.1) (aB _))) (aT (dQ (cs:=#[jI (bits .andNot .i64 (c:Int) (1*2 ^ k)),jI (bits .andNot .i64 (x:Int) (1*2 ^ k))]) A A A))
 intro vf pf hR
 have e5:=hR 5 (by decide)
 have e6:=hR 6 (by decide)
 have e15:=hR 15 (by decide)
 refine Or.inl ⟨dT (congrArg some e5.1) A,?_⟩
 exact aW (sk 53 (congrArg some e6.1) (sk 62 (congrArg some e15.1) (aB _))) (List.sublist_append_right _ _) (aJ A A (fun w hm=>nU t (An.mk (bits .andNot .i64 (c:Int) (1*2 ^ k)) (bits .andNot .i64 (x:Int) (1*2 ^ k))) w ht))
 intro vf pf hR
 have e5:=hR 5 (by decide)
 have e16:(fun u_ p_=>∃b_:Bool,u_=.bool b_∧p_=[]) (vf 16) (pf 16):=hR 16 (by decide)
 obtain⟨v16,vE16⟩:∃x,vf 16=x:=⟨_,rfl⟩
 obtain⟨p17,pE16⟩:∃x,pf 16=x:=⟨_,rfl⟩
 have R18:=e16
 rw[vE16,pE16] at R18
 obtain⟨c18,rfl,rfl⟩:=R18
 exact fX A (sk 52 (congrArg some e5.1) (sk 63 (congrArg some vE16) (aB _))) (cD (aT (aK A)) (fun _ _ h=>⟨h.1.trans (by show _=(.bool (bolOf (vf 16)):Value);first|(rw[vE16];done)|(rw[vE16];rfl)),h.2⟩))
 intro vf pf hR
 have e16:(fun u_ p_=>∃b_:Bool,u_=.bool b_∧p_=[]) (vf 16) (pf 16):=hR 16 (by decide)
 obtain⟨v16,vE16⟩:∃x,vf 16=x:=⟨_,rfl⟩
 obtain⟨p17,pE16⟩:∃x,pf 16=x:=⟨_,rfl⟩
 have R18:=e16
 rw[vE16,pE16] at R18
 obtain⟨c18,rfl,rfl⟩:=R18
 have e17:(vf 17)=.bool (bolOf (vf 16))∧(pf 17)=[]:=hR 17 (by decide)
 rw[vE16] at e17
 refine nZ (bO [44,40,25,18,12,8,7,6,5,4,3,2,1,0] _ (sk 64 (congrArg some e17.1) (aB _)) A) (List.sublist_append_right _ _) ?_
 simp only[List.drop_succ_cons,List.drop_zero]
 refine bR ?_
 refine fU A (fun h19=>?_) (fun h19=>?_)
 refine bJ (dJ 1 A (cK (bZ 1 A (aP A (dM A A A) (dJ 1 A ?_)))))
 exact cG (k+1) false (by omega) (by omega) (cT A) (dS A)
 refine fP (cK (bZ 1 A (aP A (dM A A A) (dJ 1 A ?_))))
 exact cG (k+1) pb (by omega) (by omega) (cT A) (dS A)
 have hb15p:((c:Int) / 2 ^ ((k:Int):Int).toNat) % 2≠1:=beq_eq_false_iff_ne.1 hb15
 refine cJ 18 [[],[],[0,1],[2],[3],[4],[5],[5],[5],[5],[5],[5],[5],[5],[5],[5],[5],[5,16]] [47,48,49,50,51,52,53,54,55,56,57,58,59,60,61,62,63,64] [jI (c:Int),jI (k:Int),jI ((c:Int) / 2 ^ ((k:Int):Int).toNat),jI (((c:Int) / 2 ^ ((k:Int):Int).toNat) % 2),.bool false,.bool false,undef,undef,undef,undef,undef,undef,undef,undef,undef,undef,undef,.bool false] (by kernel_rfl) A ?_ ?_
 exact⟨bK A (aK A) A,bK A (aK A) A,bK A (iO A A A (by omega)) A,bK A (cP A (by decide) A A (r:=((c:Int) / 2 ^ ((k:Int):Int).toNat) % 2) (zE _ (by omega))) A,.inl ⟨A,eQ (dC A A A A) hb15⟩,bK A (aK A) A,.inr ⟨A,A⟩,.inr ⟨A,A⟩,.inr ⟨A,A⟩,.inr ⟨A,A⟩,.inr ⟨A,A⟩,.inr ⟨A,A⟩,.inr ⟨A,A⟩,.inr ⟨A,A⟩,.inr ⟨A,A⟩,.inr ⟨A,A⟩,.inr ⟨A,A⟩,bK A (aK A) A,trivial⟩
 simp only[List.drop_succ_cons,List.drop_zero]
 refine bR (hH A (cK (bZ 1 A (aP A (dM A A A) (dJ 1 A ?_)))))
 exact cG (k+1) pb (by omega) (by omega) (cT A) (dS A)
 refine bR (aS A ?_)
 refine bM (dI ?_)
 refine aO (bF (aC (bZ 1 A ?_)))
 refine bW (fun h20=>?_) (fun h20=>?_)
 refine(dB (bF (aR A (bJ (aM 1 A (aP A (aF (cs:=[jI (c:Int),jI (x:Int)]) A A A A A (aD 0 A 0 A)) ?_))))))
 refine dP A (bB (z:=.agg #[jI 0,jI 0]) (s:=2) (cs:=(mI [(c:Int),(x:Int)])) A Tryz.underlying113 A (by decide) A (by kernel_rfl) A) ?_
 intro g21
 refine cW (i:=2) (z:=.agg #[jI 0,jI 0]) (bytes:=16) A A A A Tryz.underlying113 (by kernel_rfl) A A A A (aG 0 A) (cO _) (by first|omega|(simp only[List.length_append,List.length_cons,List.length_nil];omega)) (cH vs [(An.mk (c:Int) (x:Int))]) (dY anC vs (An.mk (c:Int) (x:Int)) _ A) (fun _=>A) ?_
 intro v22
 refine dJ 1 A (cK (bZ 1 A (aP A (dM A A A) (dJ 1 A ?_))))
 exact cI (x+1) (vs++[(An.mk (c:Int) (x:Int))]) v22 ⟨by omega,by rw[List.length_append,List.length_singleton];omega,cb_app hvr ⟨by dsimp only;omega,by dsimp only;omega⟩⟩ (by omega) (cT rfl) (eJ [2,0] rfl)
 refine bR (hH A (cK (bZ 1 A (aP A (dM A A A) (dJ 1 A ?_)))))
 exact cI (x+1) vs gu ⟨by omega,by omega,hvr⟩ (by omega) (cT A) (eJ [1,0] A)
 refine bR (aS A ?_)
 refine bM (dI ?_)
 refine aO (cK (bZ 1 A (aP A (dM A A A) (dJ 1 A ?_))))
 exact cI (c+1) vs gu ⟨by omega,by omega,hvr⟩ (by omega) (cT A) (dS A)
 refine bR (aS A ?_)
 refine bM (dI ?_)
 refine aO (bF (bD 2 A ?_))
 exact aV (dX (post:=[rS9 127 2 u cs anC]) A A (eJ [0] A) ⟨cs,A,by omega,hcr⟩)
theorem pG (t:Tab) (w:World) (ht:TabOk t) :
   Calls Tryz.prog 93 #[.agg #[.int .i64 t.N,.int .i64 t.B]] w (Ret w (fun u_ p_=>∃cs:List An,p_=[rS9 127 2 u_ cs anC]∧CbR cs)):=by
 obtain⟨hn,hB0,hB1⟩:=id ht
 have hp:=lL hn
 have hq:=oL hn
 refine bN (N:=36) (args:=[.agg #[jI t.N,jI t.B]]) Tryz.func93 A A (cF ?_)
 refine cR A (cN A A) ?_
 intro b1
 refine aU 1 A (cF (aP A (aF (cs:=[jI t.N,jI t.B]) A A A A A (aD 0 A 0 A)) ?_))
 refine eB A A A (aJ A A (fun w hm=>zF t w ht)) ?_
 intro v2 p3 R4
 obtain⟨cs0,rfl,hcb0⟩:=R4
 have hcl0:=hcb0.1
 refine aU 1 A (eP (aP A (aF (cs:=[jI t.N,jI t.B]) A A A A A (aD 1 A 0 A)) ?_))
 refine dA A (aJ A A (fun w hm=>aY (iU t w ht))) (aU 1 A (aS A (bY (aC (aC (bZ 1 A (aP A (bC A Tryz.underlying113 A (aG 0 A)) (aP A (iM A A A) (aM 1 A ?_)))))))))
 refine bR (bE ?_)
 refine iC (α:=Int) (β:=Value) (γ:=List An) [0,1,2,9] A (fun kv u cs=>[rS9 127 2 u cs anC,boxE b1 #[jI t.N,jI t.B] 111]) (fun kv u cs=>[(3,u),(4,jI kv)]) (fun kv u cs=>-1≤kv∧kv<(cs.length:Int)∧CbR cs) (fun kv u cs=>(kv+1).toNat) ((cs0.length:Int)-1) _ cs0 ⟨by omega,by omega,hcb0⟩ (cT A) (dS A) ?_
 intro kv u cs hi5
 obtain⟨hk1,hk2,hcb⟩:=hi5
 have hcl:=hcb.1
 refine aC (aC (bZ 1 A ?_))
 refine gO A A A A A A (fun h6=>?_) (fun h6=>?_)
 refine bR (aR A (bY (fM (aC ?_))))
 refine eV A 7 [0,1,2,3,4,5,6] (List.take 7 _) (List.drop 7 _) [[],[0],[],[],[1,2,3],[],[4,5]] [18,19,20,21,22,23,24] (fun i_ vs_ v_ p_=>match i_ with|0=>v_=.pointer (some ⟨b1,0+0,none⟩)∧p_=[]|1=>v_=jI t.N∧p_=[]|2=>v_=u∧p_=[]|3=>v_=jI kv∧p_=[]|4=>(fun u_ p_=>∃b:Int,u_=.agg #[jI t.N,jI b]∧p_=[]) v_ p_|5=>v_=.agg #[jI t.N,jI t.B]∧p_=[]|6=>v_=.bool (eqA t.N (intOf_o (ag9 1 (gV9 vs_ 0))) t.N t.B)∧p_=[]|_=>True) (List.take_append_drop 7 _).symm (by kernel_rfl) (by kernel_rfl) A A ?_ ?_
 refine⟨?_,?_,?_,?_,?_,?_,?_,trivial⟩
 intro vf pf hR
 exact fX A (aI [1] A) (aT (cQ 0 A A A))
 intro vf pf hR
 have e0:=hR 0 (by decide)
 exact eZ A (sk 18 (congrArg some e0.1) (aB _)) (aT (aN A A A (aH 1 A A)))
 intro vf pf hR
 exact fX A (aI [3] A) (aT (aK A))
 intro vf pf hR
 exact fX A (aI [4] A) (aT (aK A))
 intro vf pf hR
 have e1:=hR 1 (by decide)
 have e2:=hR 2 (by decide)
 have e3:=hR 3 (by decide)
 exact eZ A (sk 19 (congrArg some e1.1) (sk 20 (congrArg some e2.1) (sk 21 (congrArg some e3.1) (aB _)))) (aJ A A (fun w hm=>rV t.N cs kv _ w hn ((aG 0 A) w hm) hcb))
 intro vf pf hR
 exact eZ A (aI [1] A) (aT (aF (cs:=[jI t.N,jI t.B]) A A A A A (aD 1 A 0 A)))
 intro vf pf hR
 have e4:(fun u_ p_=>∃b:Int,u_=.agg #[jI t.N,jI b]∧p_=[]) (vf 4) (pf 4):=hR 4 (by decide)
 obtain⟨v7,vE4⟩:∃x,vf 4=x:=⟨_,rfl⟩
 obtain⟨p8,pE4⟩:∃x,pf 4=x:=⟨_,rfl⟩
 have R9:=e4
 rw[vE4,pE4] at R9
 obtain⟨b9,rfl,rfl⟩:=R9
 have e5:=hR 5 (by decide)
 exact fX A (sk 22 (congrArg some vE4) (sk 23 (congrArg some e5.1) (aB _))) (cD (aT (rv_eqT A A A)) (fun _ _ h=>⟨h.1.trans (by show _=(.bool (eqA t.N (intOf_o (ag9 1 (vf 4))) t.N t.B):Value);first|(rw[vE4];done)|(rw[vE4];rfl)),h.2⟩))
 intro vf pf hR
 have e4:(fun u_ p_=>∃b:Int,u_=.agg #[jI t.N,jI b]∧p_=[]) (vf 4) (pf 4):=hR 4 (by decide)
 obtain⟨v7,vE4⟩:∃x,vf 4=x:=⟨_,rfl⟩
 obtain⟨p8,pE4⟩:∃x,pf 4=x:=⟨_,rfl⟩
 have R9:=e4
 rw[vE4,pE4] at R9
 obtain⟨b9,rfl,rfl⟩:=R9
 have e6:(vf 6)=.bool (eqA t.N (intOf_o (ag9 1 (vf 4))) t.N t.B)∧(pf 6)=[]:=hR 6 (by decide)
 rw[vE4] at e6
 refine nZ (bO [15,9,4,3,2,1,0] _ (sk 24 (congrArg some e6.1) (aB _)) A) (List.sublist_append_right _ _) ?_
 simp only[List.drop_succ_cons,List.drop_zero]
 refine bR ?_
 refine fU A (fun h10=>?_) (fun h10=>?_)
 refine eF (l:=[rS9 127 2 u cs anC,boxE b1 #[jI t.N,jI t.B] 111]) A 9 [0,1,2,3,4,5,6,7,8] (List.take 9 _) (List.drop 9 _) [[],[],[],[1,2],[0,3],[],[],[6],[5,7]] [some 25,some 26,some 27,some 28,some 29,some 30,some 31,some 32,some 33] (fun i_ vs_ v_ p_=>match i_ with|0=>IsRow 127 2 0 ([]) v_ p_|1=>v_=u∧p_=[]|2=>v_=jI kv∧p_=[]|3=>v_=slV u 0 kv.toNat 2∧p_=[]|4=>(∃pm_,p_=[pm_]∧(fun u_ p_=>p_=rowE 127 2 u_ ((cs.take kv.toNat).length) ((cs.take kv.toNat).flatMap anC)) v_ pm_)|5=>v_=u∧p_=[]|6=>v_=jI kv∧p_=[]|7=>v_=jI (kv+1)∧p_=[]|8=>v_=slV u (kv+1).toNat cs.length 2∧p_=[]|_=>True) [[],[],[],[1,2],[3],[],[],[6],[5,7]] [none,none,none,none,some 0,none,none,none,none] [] [1,2,3,4,5,6,7,8] 11 (List.take_append_drop 9 _).symm (by kernel_rfl) (by kernel_rfl) (by kernel_rfl) A A ?_ ?_
 refine⟨?_,?_,?_,?_,?_,?_,?_,?_,?_,trivial⟩
 intro vf pf hmu hR
 refine bL [] [] A (aW (aB _) (List.sublist_append_right _ _) ?_)
 exact dH (s:=2) A Tryz.underlying113 A
 intro vf pf hmu hR
 refine bL [] [] A (bH (aI [3] A) ?_)
 exact aT (aK A)
 intro vf pf hmu hR
 refine bL [] [] A (bH (aI [4] A) ?_)
 exact aT (aK A)
 intro vf pf hmu hR
 have e1:=hR 1 (by decide)
 have e2:=hR 2 (by decide)
 refine bL [1,2] [1,2] A (aW (sk 26 (congrArg some e1.1) (sk 27 (congrArg some e2.1) (aB _))) (List.sublist_append_right _ _) ?_)
 exact aT (rv_slH A Tryz.underlying113 A A A (aG 0 A) (by omega) (by omega))
 intro vf pf hmu hR
 have e0:IsRow 127 2 0 ([]) (vf 0) (pf 0):=hR 0 (by decide)
 obtain⟨g11,vE0,pE0⟩:=e0
 have e3:=hR 3 (by decide)
 refine Or.inl ⟨A,?_⟩
 show RunM _ _ _ (pf 0) (([3]:List Nat).flatMap pf++_) (envOf3 _ vf [0,3]++_) _ _
 rw[pE0];rw[vE0]
 exact cV (sk 25 (congrArg some vE0) (sk 28 (congrArg some e3.1) (aB _))) (by simp only[e3.2,fS]<;>rfl) (gV (d:=0) (z:=.agg #[jI 0,jI 0]) (bytes:=16) (n':=(cs.take kv.toNat).length) (xs':=((cs.take kv.toNat).flatMap anC)) A Tryz.underlying113 A A A A (Fe (f:=anC) (fun _=>A) (aG 0 A) (by omega)) (kZ anC (cs.take kv.toNat) (fun r u hu=>by simp[anC] at hu;first|(subst hu;rfl)|(rcases hu with rfl|rfl<;>rfl)|(rcases hu with rfl|rfl|rfl<;>rfl)|(rcases hu with rfl|rfl|rfl|rfl<;>rfl))) (by first|omega|(simp only[List.length_take,List.length_drop];omega)) (Nat.zero_add _) (List.nil_append _))
 intro vf pf hmu hR
 refine bL [] [] A (bH (aI [3] A) ?_)
 exact aT (aK A)
 intro vf pf hmu hR
 refine bL [] [] A (bH (aI [4] A) ?_)
 exact aT (aK A)
 intro vf pf hmu hR
 have e6:=hR 6 (by decide)
 refine bL [6] [6] A (bH (sk 31 (congrArg some e6.1) (aB _)) ?_)
 exact aT (dM A A A)
 intro vf pf hmu hR
 have e5:=hR 5 (by decide)
 have e7:=hR 7 (by decide)
 refine bL [5,7] [5,7] A (aW (sk 30 (congrArg some e5.1) (sk 32 (congrArg some e7.1) (aB _))) (List.sublist_append_right _ _) ?_)
 exact aT (Cs A Tryz.underlying113 A A A (aG 0 A) (by omega) (by omega))
 intro vf pf hmu hR
 have e0:IsRow 127 2 0 ([]) (vf 0) (pf 0):=hR 0 (by decide)
 obtain⟨g11,vE0,pE0⟩:=e0
 have e4:(∃pm_,(pf 4)=[pm_]∧(fun u_ p_=>p_=rowE 127 2 u_ ((cs.take kv.toNat).length) ((cs.take kv.toNat).flatMap anC)) (vf 4) pm_):=hR 4 (by decide)
 obtain⟨p13,pE4,R14⟩:=e4
 obtain⟨v12,vE4⟩:∃x,vf 4=x:=⟨_,rfl⟩
 rw[vE4] at R14
 subst R14
 have e8:=hR 8 (by decide)
 have q1:=hR 1 (by decide)
 have q2:=hR 2 (by decide)
 have q3:=hR 3 (by decide)
 have q5:=hR 5 (by decide)
 have q6:=hR 6 (by decide)
 have q7:=hR 7 (by decide)
 have q8:=hR 8 (by decide)
 refine cE (bO [24,15,9,4,3,2,1,0] _ (sk 29 (congrArg some vE4) (sk 33 (congrArg some e8.1) (aB _))) A) (by simp only[pE4,vE4,q1.2,q2.2,q3.2,q5.2,q6.2,q7.2,q8.2,fS]<;>rfl) ?_
 simp only[List.drop_succ_cons,List.drop_zero]
 refine cW (i:=0) (z:=.agg #[jI 0,jI 0]) (bytes:=16) (n':=((cs.take kv.toNat)++(cs.drop (kv+1).toNat)).length) (xs':=(((cs.take kv.toNat)++(cs.drop (kv+1).toNat)).flatMap anC)) A A A A Tryz.underlying113 (by kernel_rfl) A A A A (Fd (f:=anC) (fun _=>A) (aG 1 A) (by omega)) (kZ anC (cs.drop (kv+1).toNat) (fun r u hu=>by simp[anC] at hu;first|(subst hu;rfl)|(rcases hu with rfl|rfl<;>rfl)|(rcases hu with rfl|rfl|rfl<;>rfl)|(rcases hu with rfl|rfl|rfl|rfl<;>rfl))) (by first|omega|(simp only[List.length_take,List.length_drop,List.length_append];omega)) (cH (cs.take kv.toNat) (cs.drop (kv+1).toNat)) (Eb anC (cs.take kv.toNat) (cs.drop (kv+1).toNat)) (fun _=>A) ?_
 intro v15
 refine dJ 1 A (cK (bZ 1 A (aP A (iM A A A) (dJ 1 A ?_))))
 exact cI (kv-1) v15 ((cs.take kv.toNat)++(cs.drop (kv+1).toNat)) ⟨by omega,by have h9:=(El (k:=kv.toNat) hcb (by omega) (m:=(kv+1).toNat) (by omega)).2;omega,(El (k:=kv.toNat) hcb (by omega) (m:=(kv+1).toNat) (by omega)).1⟩ (by omega) (cT A) (eJ [0,1] A)
 refine fP (cK (bZ 1 A (aP A (iM A A A) (dJ 1 A ?_))))
 exact cI (kv-1) u cs ⟨by omega,by omega,hcb⟩ (by omega) (cT A) (dS A)
 refine bR (aS A ?_)
 refine bM (dI ?_)
 refine aO (bF (bD 2 A ?_))
 exact aV (dX (post:=[rS9 127 2 u cs anC]) A A (eJ [0] A) ⟨cs,A,hcb⟩)
theorem pH (n:Int) (cs:List An) (v:Value) (w:World) (hn:0≤n∧n≤4) (hv:RdsW w v 2 cs.length (cs.flatMap anC)) (hcb:CbR cs) :
   Calls Tryz.prog 95 #[.int .i64 n,v] w (Ret w (fun u_ p_=>∃b_:Int,u_=.int .i64 b_∧p_=[])):=by
 obtain⟨hcl,hcr⟩:=id hcb
 refine bN (N:=34) (args:=[jI n,v]) Tryz.func95 A A (bD 1 A (aC (aC (bZ 2 A ?_))))
 refine eB A A A (aJ A A (fun w hm=>qV n cs v w hn (hv.below hm.bel) hcb)) ?_
 intro v1 p2 R3
 obtain⟨c3,rfl,rfl⟩:=R3
 refine aM 1 A (bW (fun h4=>?_) (fun h4=>?_))
 refine bR (aR A (bD 1 A ?_))
 refine aV (aL ?_)
 exact bV (rs:=[.tmp 4]) (vs:=[jI (-1)]) (post:=[]) A ⟨A,trivial⟩ A (List.nil_sublist _) ⟨_,A,A⟩
 refine bR (aS A (bY (bD 1 A (aC (aC ?_)))))
 refine bJ (aU 1 A (bE ?_))
 refine gT (α:=Nat) (β:=Int) [0,1,4,11] A (fun i sm=>[]) (fun i sm=>[(5,jI sm),(6,jI (i:Int))]) (fun i sm=>i≤cs.length∧0≤sm∧sm≤4*i) (fun i sm=>cs.length-i) 0 0 ⟨Nat.zero_le _,Int.le_refl _,Int.le_refl _⟩ (cT A) (.slnil) ?_
 intro i sm hi5
 obtain⟨hi,hs0,hs1⟩:=hi5
 refine aC (aC (bZ 2 A (aP A (bC A Tryz.underlying113 A (aE hv)) ?_)))
 refine bQ A A A A A A (fun h6=>?_) (fun h6=>?_)
 refine bR (aR A (bY (fM (bD 1 A ?_))))
 refine bE ?_
 refine gT (α:=Nat) (β:=Int) [0,1,4,6,11,15] A (fun k s2=>[]) (fun k s2=>[(5,jI s2),(7,jI (k:Int))]) (fun k s2=>(k:Int)≤n∧0≤s2∧s2≤4*i+k) (fun k s2=>n.toNat-k) 0 sm ⟨by omega,hs0,by omega⟩ (cT A) (.slnil) ?_
 intro k s2 hi7
 obtain⟨hk,hk2,hk3⟩:=hi7
 refine aC (aC (bZ 2 A ?_))
 refine bQ A A A A A A (fun h8=>?_) (fun h8=>?_)
 refine bR (aR A (bY (fM (bJ ?_))))
 have hci:=hcr i
 refine aM 3 A (aP A (dF 2 A A A A (aE hv)) (aP A (cC (k0:=0) A A A (aE hv) (by omega)) ?_))
 refine aP A (bG (u:=jI ((cs.getD i an0).a)) A A A (aE hv) ((dE anC 2 (fun _=>A) cs an0 (show i<_ by omega) (by decide)).trans A)) (aM 1 A (aP A (iO A A A (by omega)) (aP A (cP A (by decide) A A (r:=(((cs.getD i an0).a) / 2 ^ ((k:Int):Int).toNat) % 2) (zE _ (by omega))) (aP A (dM A A A) (dJ 1 A (cK (bZ 1 A (aP A (dM A A A) (aM 1 A (?_))))))))))
 exact dB (cG (k+1) (s2+((((cs.getD i an0).a) / 2 ^ ((k:Int):Int).toNat) % 2)) ⟨by omega,by omega,by omega⟩ (by omega) (cT A) (.slnil))
 refine bR (aS A ?_)
 refine bM (dI ?_)
 refine aO (cK (bZ 1 A (aP A (dM A A A) (dJ 1 A ?_))))
 exact cG (i+1) s2 ⟨by omega,hk2,by omega⟩ (by omega) (cT A) (.slnil)
 refine bR (aS A ?_)
 refine bM (dI ?_)
 refine aO (bF (bD 2 A ?_))
 exact aV (bV (rs:=[.tmp 4]) (vs:=[jI sm]) (post:=[]) A ⟨A,trivial⟩ A (List.nil_sublist _) ⟨_,A,A⟩)
structure CSt where
  o:Nt
  ps:List HP
  s:Int
def lbX (l b:Int):Int:=if b=0 then xr l else xr (xr l)
theorem lbX_ok {l b m:Int}(h:LtOk l m):LtOk (lbX l b) m:=by unfold lbX;split;exact iZ h;exact iZ (iZ h)
theorem Dr {l b m:Int}(h:LtOk l m) (hm:m≤100000) (hb:b=0∨b=1):bits .xor .i64 (xr l) b=lbX l b:=by
  obtain⟨h0,h1⟩:=iZ h
  unfold lbX
  rcases hb with rfl|rfl
  · rw [if_pos rfl]
    have:=Bit.xor_int (xr l) 0 h0 (by omega) (by omega) (by omega)
    rw[this];simp;omega
  · rw[if_neg (by decide)];exact iB h0 (by omega)
theorem CopyOf.grw {n m:Nt}(h:CopyOf n m) (hn:NtOk n):Gr n m:=⟨h.cps,h.cps.ok (by rw[h.gs];exact hn),by rw[h.gs];exact Nat.le_refl _⟩
theorem pJ (n:Nt) (lits:List Int) (cs:List An) (vl vc:Value) (w:World) (hr:RdsNt w n) (hn:NtOk n) (hlv:RdsW w vl 1 lits.length (lits.map (Value.int .i64))) (hv:RdsW w vc 2 cs.length (cs.flatMap anC)) (hcb:CbR cs) (hll:lits.length≤4) (hlt:∀x∈lits,LtOk x n.cnt) :
   Calls Tryz.prog 96 #[.agg #[.int .i64 n.ins,n.sv,n.av,n.ov],vl,vc] w (Ret w (fun u_ p_=>∃(ps:List HP) (m:Nt) (z:Int),u_=.tuple #[m.agg,.int .i64 z]∧p_=[rS9 46 3 m.sv m.ss sqC,bigE ps]∧(∀w,(bigE ps).holds w→NtRest w m)∧(m.sv.oneCell'=true∧m.av.oneCell'=true∧m.ov.oneCell'=true)∧Gr n m∧z<2*m.cnt)):=by
 have hi0:=hn.i0
 have hi1:=hn.i1
 have hs1:=hn.s1
 have ha1:=hn.a1
 have ho1:=hn.o1
 have hcnt:n.cnt=1+n.ins+n.ss.length+n.gs.length:=rfl
 have hfst:n.fst=1+n.ins+n.ss.length:=rfl
 obtain⟨hcl,hcr⟩:=id hcb
 have hcn:=eX hn
 refine bN (N:=115) (args:=[.agg #[jI n.ins,n.sv,n.av,n.ov],vl,vc]) Tryz.func96 A A (cF ?_)
 refine cR A (cN A A) ?_
 intro b1
 refine cR A (bP (z:=.agg #[jI 0,.slice none 0 0,.slice none 0 0,.slice none 0 0]) A A) ?_
 intro b2
 refine aU 1 A (eP (aP A (aF (cs:=[jI n.ins,n.sv,n.av,n.ov]) A A A A A (aD 1 A 0 A)) ?_))
 refine dA A (aJ A A (fun w hm=>aY (eA n w (hr.below hm.bel) hn))) (aM 3 A (aP A (bC A Tryz.underlying26 A (aE hlv)) ?_))
 refine fJ A A A A A A (fun h3=>absurd h3 (by omega)) (fun h3=>?_)
 refine aM 3 A (aP A (bC A Tryz.underlying26 A (aE hlv)) (aM 1 A ?_))
 refine eB A A A (aJ A A (fun w hm=>qV lits.length cs vc w (by omega) (hv.below hm.bel) hcb)) ?_
 intro v4 p5 R6
 obtain⟨c6,rfl,rfl⟩:=R6
 refine aM 1 A (bW (fun h7=>?_) (fun h7=>?_))
 refine aU 1 A (aR A (cF (aP A (aF (cs:=[jI n.ins,n.sv,n.av,n.ov]) A A A A A (aD 1 A 0 A)) ?_)))
 refine eB A A A (aJ A A (fun w hm=>fA n w (hr.below hm.bel) hn)) ?_
 intro v8 p9 R10
 obtain⟨pqc,mc,rfl,rfl,hpqc,⟨o1mc,o3mc⟩,hcpmc⟩:=R10
 refine iA (fun w hm=>(aG 1 A w hm).one) (fun o2mc=>?_)
 refine bI (cs':=#[jI mc.ins,mc.sv,mc.av,mc.ov]) (i:=3) (off:=0) (us:=[jI mc.ins,mc.sv,mc.av,mc.ov]) A A A A A A A (aA A (aA o1mc (aA o2mc (aA o3mc bA)))) A A A (aU 1 A ?_)
 refine aV (aL ?_)
 refine aZ 5 [3,0,1,2] A A (by decide) ?_
 refine cB 2 A ?_
 refine aZ 3 [2,0,1] A A (by decide) ?_
 exact bV (rs:=[.cell 6 28,.tmp 7]) (vs:=[.agg #[jI mc.ins,mc.sv,mc.av,mc.ov],jI (-1)]) (post:=[rS9 46 3 mc.sv mc.ss sqC,bigE [bigE pqc,rS9 67 2 mc.av mc.gs anC]]) A ⟨⟨b2,0,[jI mc.ins,mc.sv,mc.av,mc.ov],A,A,by kernel_rfl,by kernel_rfl,aD 2 A 0 A⟩,A,trivial⟩ A (eJ [0,0] A) ⟨_,mc,_,A,A,fun w hw=>⟨(hpqc w (aX hw cL)).1,bT (aX hw (dK cL)),(hpqc w (aX hw cL)).2⟩,⟨o1mc,o2mc,o3mc⟩,hcpmc.grw hn,by have h9:=eX (hcpmc.grw hn).ok;omega⟩
 refine aU 1 A (aS A (bY (aC (bD 1 A ?_))))
 refine bE ?_
 refine hO (α:=Nat) [0,1,2,3,6,7,32] A (fun j=>[eB9 b2,nB9 b1 n]) (fun j=>[(8,jI (j:Int))]) (fun j=>j≤lits.length) (fun j=>lits.length-j) 0 (Nat.zero_le _) (cT A) (dS A) ?_
 intro j hi11
 have hj:=hi11
 refine aC (aC (bZ 2 A (aP A (bC A Tryz.underlying26 A (aE hlv)) ?_)))
 refine bQ A A A A A A (fun h12=>?_) (fun h12=>?_)
 refine bR (aR A (bY (fM (aC ?_))))
 have hlk:=hlt _ (bS (d:=(0:Int)) (show j<lits.length by omega))
 have hlk2:=hlk.2
 refine cJ 8 [[],[],[0,1],[2],[],[4],[3,5],[6]] [41,42,43,44,45,46,47,48] [vl,jI (j:Int),elP vl ((j:Int).toNat*1),jI (lits.getD j 0),.agg #[jI n.ins,n.sv,n.av,n.ov],jI n.cnt,.bool true,.bool false] (by kernel_rfl) A ?_ ?_
 exact⟨bK A (aK A) A,bK A (aK A) A,bK A (dF 1 A A A A (aE hlv)) A,bK A (hC A A A (aE hlv)) A,bK A (aF (cs:=[jI n.ins,n.sv,n.av,n.ov]) A A A A A (aD 1 A 0 A)) A,.inl ⟨A,aJ A A (fun w hm=>aY (cS n w (hr.below hm.bel) hn))⟩,.inl ⟨A,aJ A A (fun w hm=>aY (by have h9:=iD (lits.getD j 0) n.cnt w (by omega);rw[decide_eq_true hlk] at h9;exact h9))⟩,bK A (aK A) A,trivial⟩
 simp only[List.drop_succ_cons,List.drop_zero]
 refine bR (hH A (cK (bZ 1 A (aP A (dM A A A) (dJ 1 A ?_)))))
 exact cU (j+1) (by omega) (by omega) (cT A) (dS A)
 refine bR (aS A ?_)
 refine bM (dI ?_)
 refine aO (bF (cF (aP A (aF (cs:=[jI n.ins,n.sv,n.av,n.ov]) A A A A A (aD 1 A 0 A)) ?_)))
 refine eB A A A (aJ A A (fun w hm=>fA n w (hr.below hm.bel) hn)) ?_
 intro v13 p14 R15
 obtain⟨pq,m,rfl,rfl,hpq,⟨o1m,o3m⟩,hcpm⟩:=R15
 refine iA (fun w hm=>(aG 1 A w hm).one) (fun o2m=>?_)
 refine cR A (bP (z:=.agg #[jI 0,.slice none 0 0,.slice none 0 0,.slice none 0 0]) A A) ?_
 intro b16
 refine bI (cs':=#[jI m.ins,m.sv,m.av,m.ov]) (i:=0) (off:=0) (us:=[jI m.ins,m.sv,m.av,m.ov]) A A A A A A A (aA A (aA o1m (aA o2m (aA o3m bA)))) A A A (bR (bD 1 A (aC (aC (bZ 1 A (?_))))))
 refine bR (bE ?_)
 refine eE 6 [5,4,1,0,2,3] A A (by decide) ?_
 refine uK 2 A ?_
 refine gT (α:=Nat) (β:=CSt) [0,1,2,3,6,7,9,32,38] A (fun i q=>[bigE q.ps,nB9 b16 q.o,rS9 46 3 q.o.sv q.o.ss sqC,eB9 b2,nB9 b1 n]) (fun i q=>[(10,jI q.s),(11,jI (i:Int))]) (fun i q=>i≤cs.length∧Gr n q.o∧LtOk q.s q.o.cnt∧(∀w,(bigE q.ps).holds w→NtRest w q.o)∧(q.o.sv.oneCell'=true∧q.o.av.oneCell'=true∧q.o.ov.oneCell'=true)) (fun i q=>cs.length-i) 0 ⟨m,_,0⟩ ⟨Nat.zero_le _,hcpm.grw hn,⟨Int.le_refl _,by have h9:=eX (hcpm.grw hn).ok;show(0:Int)<2*m.cnt;omega⟩,fun w hw=>⟨(hpq w (aX hw cL)).1,bT (aX hw (dK cL)),(hpq w (aX hw cL)).2⟩,⟨o1m,o2m,o3m⟩⟩ (cT A) (dS A) ?_
 intro i q hi17
 obtain⟨hi,hG,hs,hps,⟨o1o,o2o,o3o⟩⟩:=hi17
 have hcq:=eX hG.ok
 refine aC (aC (bZ 2 A (aP A (bC A Tryz.underlying113 A (aE hv)) ?_)))
 refine bQ A A A A A A (fun h18=>?_) (fun h18=>?_)
 refine bR (aR A (bY (fM (bD 1 A ?_))))
 refine aC (bD 1 A (bE ?_))
 refine gT (α:=Nat) (β:=CSt) [0,1,2,3,6,7,9,10,11,32,38,56] A (fun k qq=>[bigE qq.ps,nB9 b16 qq.o,rS9 46 3 qq.o.sv qq.o.ss sqC,eB9 b2,nB9 b1 n]) (fun k qq=>[(12,jI qq.s),(13,jI (k:Int))]) (fun k qq=>k≤lits.length∧Gr n qq.o∧LtOk qq.s qq.o.cnt∧LtOk q.s qq.o.cnt∧(∀w,(bigE qq.ps).holds w→NtRest w qq.o)∧(qq.o.sv.oneCell'=true∧qq.o.av.oneCell'=true∧qq.o.ov.oneCell'=true)) (fun k qq=>lits.length-k) 0 ⟨q.o,q.ps,1⟩ ⟨Nat.zero_le _,hG,⟨show(0:Int)≤1 by decide,by show(1:Int)<2*q.o.cnt;omega⟩,hs,hps,⟨o1o,o2o,o3o⟩⟩ (cT A) (dS A) ?_
 intro k qq hi19
 obtain⟨hk,hG2,hp2,hs2,hps2,⟨o1q,o2q,o3q⟩⟩:=hi19
 have hcq2:=eX hG2.ok
 have hgc:=hG2.cnt
 obtain⟨hp20,hp21⟩:=id hp2
 obtain⟨hs20,hs21⟩:=id hs2
 refine aC (aC (bZ 2 A (aP A (bC A Tryz.underlying26 A (aE hlv)) ?_)))
 refine bQ A A A A A A (fun h20=>?_) (fun h20=>?_)
 refine bR (aR A (bY (fM (cF ?_))))
 have hci:=hcr i
 refine aM 2 A (aP A (dF 2 A A A A (aE hv)) (aP A (cC (k0:=0) A A A (aE hv) (by omega)) ?_))
 refine aP A (bG (u:=jI ((cs.getD i an0).a)) A A A (aE hv) ((dE anC 2 (fun _=>A) cs an0 (show i<_ by omega) (by decide)).trans A)) (aM 1 A (aP A (iO A A A (by omega)) (aP A (cP A (by decide) A A (r:=(((cs.getD i an0).a) / 2 ^ ((k:Int):Int).toNat) % 2) (zE _ (by omega))) ?_)))
 refine cM A A A A A A (fun h21=>?_) (fun h21=>?_)
 refine bR (aR A (aC ?_))
 have hlk:=hlt _ (bS (d:=(0:Int)) (show k<lits.length by omega))
 have hlk3:=lbX_ok (b:=(cs.getD i an0).b / 2 ^ (k:Int).toNat % 2) ⟨hlk.1,Int.lt_of_lt_of_le hlk.2 (show 2*n.cnt≤2*qq.o.cnt by omega)⟩
 obtain⟨hlk0,hlk1⟩:=id hlk
 obtain⟨hlk4,hlk5⟩:=id hlk3
 have hci:=hcr i
 refine eF (l:=[bigE qq.ps,nB9 b16 qq.o,rS9 46 3 qq.o.sv qq.o.ss sqC,eB9 b2,nB9 b1 n]) A 22 [0,1,2,3,4,5,6,7,8,9,10,11,12,13,14,15,16,17,18,19,20,21] (List.take 22 _) (List.drop 22 _) [[],[],[],[],[2,3],[4],[5],[],[],[7,8],[9],[10],[],[11,12],[13],[6,14],[0,1,15],[16],[16,17],[16,17],[],[16,18,20]] [some 75,some 76,some 77,some 78,some 79,some 80,some 81,some 82,some 83,some 84,some 85,some 86,some 87,some 88,some 89,some 90,some 91,some 74,some 92,some 93,some 14,none] (fun i_ vs_ v_ p_=>match i_ with|0=>v_=.agg #[jI qq.o.ins,qq.o.sv,qq.o.av,qq.o.ov]∧p_=[]|1=>v_=jI qq.s∧p_=[]|2=>v_=vl∧p_=[]|3=>v_=jI (k:Int)∧p_=[]|4=>v_=elP vl ((k:Int).toNat*1)∧p_=[]|5=>v_=jI (lits.getD k 0)∧p_=[]|6=>v_=jI (xr (lits.getD k 0))∧p_=[]|7=>v_=vc∧p_=[]|8=>v_=jI (i:Int)∧p_=[]|9=>v_=elP vc ((i:Int).toNat*2)∧p_=[]|10=>v_=elP vc ((i:Int).toNat*2+1)∧p_=[]|11=>v_=jI ((cs.getD i an0).b)∧p_=[]|12=>v_=jI (k:Int)∧p_=[]|13=>v_=jI (((cs.getD i an0).b) / 2 ^ ((k:Int):Int).toNat)∧p_=[]|14=>v_=jI ((((cs.getD i an0).b) / 2 ^ ((k:Int):Int).toNat) % 2)∧p_=[]|15=>v_=jI (lbX (lits.getD k 0) ((((cs.getD i an0).b) / 2 ^ ((k:Int):Int).toNat) % 2))∧p_=[]|16=>(fun u_ p_=>∃(ps:List HP) (m:Nt) (z:Int),u_=.tuple #[m.agg,jI z]∧p_=[rS9 46 3 m.sv m.ss sqC,bigE ps]∧(∀w,(bigE ps).holds w→NtRest w m)∧(m.sv.oneCell'=true∧m.av.oneCell'=true∧m.ov.oneCell'=true)∧CpS qq.o m∧OpS qq.o m (andO qq.o.fst qq.o.gs qq.s (lbX (lits.getD k 0) ((((cs.getD i an0).b) / 2 ^ ((k:Int):Int).toNat) % 2))) z) v_ p_|17=>v_=.tuple #[.agg #[jI (intOf_o (ag9 0 (tp9 0 (gV9 vs_ 0)))),(ag9 1 (tp9 0 (gV9 vs_ 0))),(ag9 2 (tp9 0 (gV9 vs_ 0))),(ag9 3 (tp9 0 (gV9 vs_ 0)))],jI (intOf_o (tp9 1 (gV9 vs_ 0)))]∧p_=[]|18=>v_=.agg #[jI (intOf_o (ag9 0 (tp9 0 (gV9 vs_ 0)))),(ag9 1 (tp9 0 (gV9 vs_ 0))),(ag9 2 (tp9 0 (gV9 vs_ 0))),(ag9 3 (tp9 0 (gV9 vs_ 0)))]∧p_=[]|19=>v_=jI (intOf_o (tp9 1 (gV9 vs_ 0)))∧p_=[]|20=>IsBox #[jI 0,.slice none 0 0,.slice none 0 0,.slice none 0 0] 28 v_ p_|21=>p_=[boxE (blkOf (gV9 vs_ 2)) #[jI (intOf_o (ag9 0 (tp9 0 (gV9 vs_ 0)))),(ag9 1 (tp9 0 (gV9 vs_ 0))),(ag9 2 (tp9 0 (gV9 vs_ 0))),(ag9 3 (tp9 0 (gV9 vs_ 0)))] 28]|_=>True) [[],[],[],[],[2,3],[4],[5],[],[],[7,8],[9],[10],[],[11,12],[13],[6,14],[0,1,15],[16],[16,17],[16,17],[],[16,18]] [none,none,none,none,none,none,none,none,none,none,none,none,none,none,none,none,none,none,none,none,none,some 20] [] [0,1,2,3,4,5,6,7,8,9,10,11,12,13,14,15,16,17,18,19,21] 23 (List.take_append_drop 22 _).symm (by kernel_rfl) (by kernel_rfl) (by kernel_rfl) A A ?_ ?_
 refine⟨?_,?_,?_,?_,?_,?_,?_,?_,?_,?_,?_,?_,?_,?_,?_,?_,?_,?_,?_,?_,?_,?_,trivial⟩
 intro vf pf hmu hR
 refine bL [] [] A (aW (aI [9] A) (List.sublist_append_right _ _) ?_)
 exact aT (aF (cs:=[jI qq.o.ins,qq.o.sv,qq.o.av,qq.o.ov]) A A A A A (aD 1 A 0 A))
 intro vf pf hmu hR
 refine bL [] [] A (bH (aI [12] A) ?_)
 exact aT (aK A)
 intro vf pf hmu hR
 refine bL [] [] A (bH (aI [1] A) ?_)
 exact aT (aK A)
 intro vf pf hmu hR
 refine bL [] [] A (bH (aI [13] A) ?_)
 exact aT (aK A)
 intro vf pf hmu hR
 have e2:=hR 2 (by decide)
 have e3:=hR 3 (by decide)
 refine bL [2,3] [2,3] A (aW (sk 77 (congrArg some e2.1) (sk 78 (congrArg some e3.1) (aB _))) (List.sublist_append_right _ _) ?_)
 exact aT (dF 1 A A A A (aE hlv))
 intro vf pf hmu hR
 have e4:=hR 4 (by decide)
 refine bL [4] [4] A (aW (sk 79 (congrArg some e4.1) (aB _)) (List.sublist_append_right _ _) ?_)
 exact aT (hC A A A (aE hlv))
 intro vf pf hmu hR
 have e5:=hR 5 (by decide)
 refine bL [5] [5] A (bH (sk 80 (congrArg some e5.1) (aB _)) ?_)
 exact aT (cP A (by decide) A A (r:=xr (lits.getD k 0)) (iB (by omega) (by omega)))
 intro vf pf hmu hR
 refine bL [] [] A (bH (aI [2] A) ?_)
 exact aT (aK A)
 intro vf pf hmu hR
 refine bL [] [] A (bH (aI [11] A) ?_)
 exact aT (aK A)
 intro vf pf hmu hR
 have e7:=hR 7 (by decide)
 have e8:=hR 8 (by decide)
 refine bL [7,8] [7,8] A (aW (sk 82 (congrArg some e7.1) (sk 83 (congrArg some e8.1) (aB _))) (List.sublist_append_right _ _) ?_)
 exact aT (dF 2 A A A A (aE hv))
 intro vf pf hmu hR
 have e9:=hR 9 (by decide)
 refine bL [9] [9] A (aW (sk 84 (congrArg some e9.1) (aB _)) (List.sublist_append_right _ _) ?_)
 exact aT (cC (k0:=1) A A A (aE hv) (by omega))
 intro vf pf hmu hR
 have e10:=hR 10 (by decide)
 refine bL [10] [10] A (aW (sk 85 (congrArg some e10.1) (aB _)) (List.sublist_append_right _ _) ?_)
 exact aT (bG (u:=jI ((cs.getD i an0).b)) A A A (aE hv) ((dE anC 2 (fun _=>A) cs an0 (show i<_ by omega) (by decide)).trans A))
 intro vf pf hmu hR
 refine bL [] [] A (bH (aI [13] A) ?_)
 exact aT (aK A)
 intro vf pf hmu hR
 have e11:=hR 11 (by decide)
 have e12:=hR 12 (by decide)
 refine bL [11,12] [11,12] A (bH (sk 86 (congrArg some e11.1) (sk 87 (congrArg some e12.1) (aB _))) ?_)
 exact aT (iO A A A (by omega))
 intro vf pf hmu hR
 have e13:=hR 13 (by decide)
 refine bL [13] [13] A (bH (sk 88 (congrArg some e13.1) (aB _)) ?_)
 exact aT (cP A (by decide) A A (r:=(((cs.getD i an0).b) / 2 ^ ((k:Int):Int).toNat) % 2) (zE _ (by omega)))
 intro vf pf hmu hR
 have e6:=hR 6 (by decide)
 have e14:=hR 14 (by decide)
 refine bL [6,14] [6,14] A (bH (sk 81 (congrArg some e6.1) (sk 89 (congrArg some e14.1) (aB _))) ?_)
 exact aT (cP A (by decide) A A (r:=lbX (lits.getD k 0) ((((cs.getD i an0).b) / 2 ^ ((k:Int):Int).toNat) % 2)) (Dr hlk (by omega) (by omega)))
 intro vf pf hmu hR
 have e0:=hR 0 (by decide)
 have e1:=hR 1 (by decide)
 have e15:=hR 15 (by decide)
 refine bL [0,1,15] [0,1,15] A (aW (sk 75 (congrArg some e0.1) (sk 76 (congrArg some e1.1) (sk 90 (congrArg some e15.1) (aB _)))) (List.sublist_append_right _ _) ?_)
 exact aJ A A (fun w hm=>iF qq.o qq.s (lbX (lits.getD k 0) ((((cs.getD i an0).b) / 2 ^ ((k:Int):Int).toNat) % 2)) w ((hps2 w (hm.holds _ (bX (i:=0) A))).rds (aG 2 A w hm)) hG2.ok (by first|omega|exact iW (by omega)) (by first|omega|exact iW (by omega)))
 intro vf pf hmu hR
 have e16:(fun u_ p_=>∃(ps:List HP) (m:Nt) (z:Int),u_=.tuple #[m.agg,jI z]∧p_=[rS9 46 3 m.sv m.ss sqC,bigE ps]∧(∀w,(bigE ps).holds w→NtRest w m)∧(m.sv.oneCell'=true∧m.av.oneCell'=true∧m.ov.oneCell'=true)∧CpS qq.o m∧OpS qq.o m (andO qq.o.fst qq.o.gs qq.s (lbX (lits.getD k 0) ((((cs.getD i an0).b) / 2 ^ ((k:Int):Int).toNat) % 2))) z) (vf 16) (pf 16):=hR 16 (by decide)
 obtain⟨v22,vE16⟩:∃x,vf 16=x:=⟨_,rfl⟩
 obtain⟨p23,pE16⟩:∃x,pf 16=x:=⟨_,rfl⟩
 have R24:=e16
 rw[vE16,pE16] at R24
 obtain⟨ps24,m24,z24,rfl,rfl,hpm24,⟨o1mhR24,o2mhR24,o3mhR24⟩,cpm24,hom24⟩:=R24
 have gm24:=fQ hG2.ok cpm24 hom24
 have lm24:=gm24.ln
 have cm24:=gm24.gr.cnt
 have rm24:=eX gm24.gr.ok
 refine bL [16] [16] A (bU (sk 91 (congrArg some vE16) (aB _)) (by simp only[pE16,vE16,fS]<;>rfl) ?_)
 exact cD (aT (aK A)) (fun _ _ h=>⟨h.1.trans (by show _=(.tuple #[.agg #[jI (intOf_o (ag9 0 (tp9 0 (vf 16)))),(ag9 1 (tp9 0 (vf 16))),(ag9 2 (tp9 0 (vf 16))),(ag9 3 (tp9 0 (vf 16)))],jI (intOf_o (tp9 1 (vf 16)))]:Value);first|(rw[vE16];done)|(rw[vE16];rfl)),h.2⟩)
 intro vf pf hmu hR
 have e16:(fun u_ p_=>∃(ps:List HP) (m:Nt) (z:Int),u_=.tuple #[m.agg,jI z]∧p_=[rS9 46 3 m.sv m.ss sqC,bigE ps]∧(∀w,(bigE ps).holds w→NtRest w m)∧(m.sv.oneCell'=true∧m.av.oneCell'=true∧m.ov.oneCell'=true)∧CpS qq.o m∧OpS qq.o m (andO qq.o.fst qq.o.gs qq.s (lbX (lits.getD k 0) ((((cs.getD i an0).b) / 2 ^ ((k:Int):Int).toNat) % 2))) z) (vf 16) (pf 16):=hR 16 (by decide)
 obtain⟨v22,vE16⟩:∃x,vf 16=x:=⟨_,rfl⟩
 obtain⟨p23,pE16⟩:∃x,pf 16=x:=⟨_,rfl⟩
 have R24:=e16
 rw[vE16,pE16] at R24
 obtain⟨ps24,m24,z24,rfl,rfl,hpm24,⟨o1mhR24,o2mhR24,o3mhR24⟩,cpm24,hom24⟩:=R24
 have gm24:=fQ hG2.ok cpm24 hom24
 have lm24:=gm24.ln
 have cm24:=gm24.gr.cnt
 have rm24:=eX gm24.gr.ok
 have e17:(vf 17)=.tuple #[.agg #[jI (intOf_o (ag9 0 (tp9 0 (vf 16)))),(ag9 1 (tp9 0 (vf 16))),(ag9 2 (tp9 0 (vf 16))),(ag9 3 (tp9 0 (vf 16)))],jI (intOf_o (tp9 1 (vf 16)))]∧(pf 17)=[]:=hR 17 (by decide)
 rw[vE16] at e17
 refine bL [16,17] [16,17] A (bU (sk 74 (congrArg some e17.1) (aB _)) (by simp only[pE16,vE16,e17.2,fS]<;>rfl) ?_)
 exact cD (aT (aK A)) (fun _ _ h=>⟨h.1.trans (by show _=(.agg #[jI (intOf_o (ag9 0 (tp9 0 (vf 16)))),(ag9 1 (tp9 0 (vf 16))),(ag9 2 (tp9 0 (vf 16))),(ag9 3 (tp9 0 (vf 16)))]:Value);first|(rw[vE16];done)|(rw[vE16];rfl)),h.2⟩)
 intro vf pf hmu hR
 have e16:(fun u_ p_=>∃(ps:List HP) (m:Nt) (z:Int),u_=.tuple #[m.agg,jI z]∧p_=[rS9 46 3 m.sv m.ss sqC,bigE ps]∧(∀w,(bigE ps).holds w→NtRest w m)∧(m.sv.oneCell'=true∧m.av.oneCell'=true∧m.ov.oneCell'=true)∧CpS qq.o m∧OpS qq.o m (andO qq.o.fst qq.o.gs qq.s (lbX (lits.getD k 0) ((((cs.getD i an0).b) / 2 ^ ((k:Int):Int).toNat) % 2))) z) (vf 16) (pf 16):=hR 16 (by decide)
 obtain⟨v22,vE16⟩:∃x,vf 16=x:=⟨_,rfl⟩
 obtain⟨p23,pE16⟩:∃x,pf 16=x:=⟨_,rfl⟩
 have R24:=e16
 rw[vE16,pE16] at R24
 obtain⟨ps24,m24,z24,rfl,rfl,hpm24,⟨o1mhR24,o2mhR24,o3mhR24⟩,cpm24,hom24⟩:=R24
 have gm24:=fQ hG2.ok cpm24 hom24
 have lm24:=gm24.ln
 have cm24:=gm24.gr.cnt
 have rm24:=eX gm24.gr.ok
 have e17:(vf 17)=.tuple #[.agg #[jI (intOf_o (ag9 0 (tp9 0 (vf 16)))),(ag9 1 (tp9 0 (vf 16))),(ag9 2 (tp9 0 (vf 16))),(ag9 3 (tp9 0 (vf 16)))],jI (intOf_o (tp9 1 (vf 16)))]∧(pf 17)=[]:=hR 17 (by decide)
 rw[vE16] at e17
 refine bL [16,17] [16,17] A (bU (sk 74 (congrArg some e17.1) (aB _)) (by simp only[pE16,vE16,e17.2,fS]<;>rfl) ?_)
 exact cD (aT (aK A)) (fun _ _ h=>⟨h.1.trans (by show _=(jI (intOf_o (tp9 1 (vf 16))):Value);first|(rw[vE16];done)|(rw[vE16];rfl)),h.2⟩)
 intro vf pf hmu hR
 refine bL [] [] A (aW (aB _) (List.sublist_append_right _ _) ?_)
 exact bP (z:=.agg #[jI 0,.slice none 0 0,.slice none 0 0,.slice none 0 0]) A A
 intro vf pf hmu hR
 have e16:(fun u_ p_=>∃(ps:List HP) (m:Nt) (z:Int),u_=.tuple #[m.agg,jI z]∧p_=[rS9 46 3 m.sv m.ss sqC,bigE ps]∧(∀w,(bigE ps).holds w→NtRest w m)∧(m.sv.oneCell'=true∧m.av.oneCell'=true∧m.ov.oneCell'=true)∧CpS qq.o m∧OpS qq.o m (andO qq.o.fst qq.o.gs qq.s (lbX (lits.getD k 0) ((((cs.getD i an0).b) / 2 ^ ((k:Int):Int).toNat) % 2))) z) (vf 16) (pf 16):=hR 16 (by decide)
 obtain⟨v22,vE16⟩:∃x,vf 16=x:=⟨_,rfl⟩
 obtain⟨p23,pE16⟩:∃x,pf 16=x:=⟨_,rfl⟩
 have R24:=e16
 rw[vE16,pE16] at R24
 obtain⟨ps24,m24,z24,rfl,rfl,hpm24,⟨o1mhR24,o2mhR24,o3mhR24⟩,cpm24,hom24⟩:=R24
 have gm24:=fQ hG2.ok cpm24 hom24
 have lm24:=gm24.ln
 have cm24:=gm24.gr.cnt
 have rm24:=eX gm24.gr.ok
 have e18:(vf 18)=.agg #[jI (intOf_o (ag9 0 (tp9 0 (vf 16)))),(ag9 1 (tp9 0 (vf 16))),(ag9 2 (tp9 0 (vf 16))),(ag9 3 (tp9 0 (vf 16)))]∧(pf 18)=[]:=hR 18 (by decide)
 rw[vE16] at e18
 have e20:IsBox #[jI 0,.slice none 0 0,.slice none 0 0,.slice none 0 0] 28 (vf 20) (pf 20):=hR 20 (by decide)
 obtain⟨b25,vE20,pE20⟩:=e20
 refine Or.inl ⟨A,?_⟩
 show RunM _ _ _ (pf 20) (([16,18]:List Nat).flatMap pf++_) (envOf3 _ vf [16,18,20]++_) _ _
 rw[pE20]
 exact cV (sk 14 (congrArg some vE20) (sk 92 (congrArg some e18.1) (aB _))) (by simp only[pE16,vE16,e18.2,fS]<;>rfl) (fD (dR (us:=[jI m24.ins,m24.sv,m24.av,m24.ov]) (off:=0) 0 A A A A A A (aA A (aA o1mhR24 (aA o2mhR24 (aA o3mhR24 bA)))) A A) (fun v_ p_ h=>by show p_=[boxE (blkOf (vf 20)) #[jI (intOf_o (ag9 0 (tp9 0 (vf 16)))),(ag9 1 (tp9 0 (vf 16))),(ag9 2 (tp9 0 (vf 16))),(ag9 3 (tp9 0 (vf 16)))] 28];rw[vE16,vE20];exact h))
 intro vf pf hmu hR
 have e16:(fun u_ p_=>∃(ps:List HP) (m:Nt) (z:Int),u_=.tuple #[m.agg,jI z]∧p_=[rS9 46 3 m.sv m.ss sqC,bigE ps]∧(∀w,(bigE ps).holds w→NtRest w m)∧(m.sv.oneCell'=true∧m.av.oneCell'=true∧m.ov.oneCell'=true)∧CpS qq.o m∧OpS qq.o m (andO qq.o.fst qq.o.gs qq.s (lbX (lits.getD k 0) ((((cs.getD i an0).b) / 2 ^ ((k:Int):Int).toNat) % 2))) z) (vf 16) (pf 16):=hR 16 (by decide)
 obtain⟨v22,vE16⟩:∃x,vf 16=x:=⟨_,rfl⟩
 obtain⟨p23,pE16⟩:∃x,pf 16=x:=⟨_,rfl⟩
 have R24:=e16
 rw[vE16,pE16] at R24
 obtain⟨ps24,m24,z24,rfl,rfl,hpm24,⟨o1mhR24,o2mhR24,o3mhR24⟩,cpm24,hom24⟩:=R24
 have gm24:=fQ hG2.ok cpm24 hom24
 have lm24:=gm24.ln
 have cm24:=gm24.gr.cnt
 have rm24:=eX gm24.gr.ok
 have e19:(vf 19)=jI (intOf_o (tp9 1 (vf 16)))∧(pf 19)=[]:=hR 19 (by decide)
 rw[vE16] at e19
 have e20:IsBox #[jI 0,.slice none 0 0,.slice none 0 0,.slice none 0 0] 28 (vf 20) (pf 20):=hR 20 (by decide)
 obtain⟨b25,vE20,pE20⟩:=e20
 have e21:(pf 21)=[boxE (blkOf (vf 20)) #[jI (intOf_o (ag9 0 (tp9 0 (vf 16)))),(ag9 1 (tp9 0 (vf 16))),(ag9 2 (tp9 0 (vf 16))),(ag9 3 (tp9 0 (vf 16)))] 28]:=hR 21 (by decide)
 rw[vE16,vE20] at e21
 have pE21:=e21
 have q0:=hR 0 (by decide)
 have q1:=hR 1 (by decide)
 have q2:=hR 2 (by decide)
 have q3:=hR 3 (by decide)
 have q4:=hR 4 (by decide)
 have q5:=hR 5 (by decide)
 have q6:=hR 6 (by decide)
 have q7:=hR 7 (by decide)
 have q8:=hR 8 (by decide)
 have q9:=hR 9 (by decide)
 have q10:=hR 10 (by decide)
 have q11:=hR 11 (by decide)
 have q12:=hR 12 (by decide)
 have q13:=hR 13 (by decide)
 have q14:=hR 14 (by decide)
 have q15:=hR 15 (by decide)
 have q17:=hR 17 (by decide)
 have q18:=hR 18 (by decide)
 have q19:=hR 19 (by decide)
 refine cE (bO [13,12,11,10,9,7,6,3,2,1,0] _ (sk 14 (congrArg some vE20) (bO [73,62,56,38,32] _ (sk 93 (congrArg some e19.1) (aB _)) A)) A) (by simp only[pE16,vE16,pE21,q0.2,q1.2,q2.2,q3.2,q4.2,q5.2,q6.2,q7.2,q8.2,q9.2,q10.2,q11.2,q12.2,q13.2,q14.2,q15.2,q17.2,q18.2,q19.2,fS]<;>rfl) ?_
 simp only[List.drop_succ_cons,List.drop_zero]
 refine aU 1 A (eP ?_)
 have hzq:intOf_o (tp9 1 (Value.tuple #[m24.agg,Value.int IntKind.i64 z24]))=z24:=rfl
 have hzp:intOf_o (tp9 1 (Value.tuple #[m24.agg,jI z24]))=z24:=rfl
 refine aM 1 A (bQ A A A A A A (fun h26=>?_) (fun h26=>?_))
 refine bR (aR A (cF (aP A (aF (cs:=[jI n.ins,n.sv,n.av,n.ov]) A A A A A (aD 7 A 0 A)) ?_)))
 refine eB A A A (aJ A A (fun w hm=>fA n w (hr.below hm.bel) hn)) ?_
 intro v27 p28 R29
 obtain⟨pqc,mc,rfl,rfl,hpqc,⟨o1mc,o3mc⟩,hcpmc⟩:=R29
 refine iA (fun w hm=>(aG 1 A w hm).one) (fun o2mc=>?_)
 refine bI (cs':=#[jI mc.ins,mc.sv,mc.av,mc.ov]) (i:=9) (off:=0) (us:=[jI mc.ins,mc.sv,mc.av,mc.ov]) A A A A A A A (aA A (aA o1mc (aA o2mc (aA o3mc bA)))) A A A (aU 1 A ?_)
 refine aV (aL ?_)
 refine aQ (fL ?_)
 refine aQ (aL ?_)
 refine aQ (fL ?_)
 refine aQ (aL ?_)
 refine aZ 11 [9,0,1,2] A A (by decide) ?_
 refine cB 2 A ?_
 refine aZ 3 [2,0,1] A A (by decide) ?_
 exact bV (rs:=[.cell 6 28,.tmp 7]) (vs:=[.agg #[jI mc.ins,mc.sv,mc.av,mc.ov],jI (-1)]) (post:=[rS9 46 3 mc.sv mc.ss sqC,bigE [bigE pqc,rS9 67 2 mc.av mc.gs anC]]) A ⟨⟨b2,0,[jI mc.ins,mc.sv,mc.av,mc.ov],A,A,by kernel_rfl,by kernel_rfl,aD 2 A 0 A⟩,A,trivial⟩ A (eJ [0,0] A) ⟨_,mc,_,A,A,fun w hw=>⟨(hpqc w (aX hw cL)).1,bT (aX hw (dK cL)),(hpqc w (aX hw cL)).2⟩,⟨o1mc,o2mc,o3mc⟩,hcpmc.grw hn,by have h9:=eX (hcpmc.grw hn).ok;omega⟩
 refine bR (aS A (bY (cF (aP A (aF (cs:=[jI m24.ins,m24.sv,m24.av,m24.ov]) A A A A A (aD 2 A 0 A)) ?_))))
 refine bI (cs':=#[jI m24.ins,m24.sv,m24.av,m24.ov]) (i:=4) (off:=0) (us:=[jI m24.ins,m24.sv,m24.av,m24.ov]) A A A A A A A (aA A (aA o1mhR24 (aA o2mhR24 (aA o3mhR24 bA)))) A A A (bR (bJ (dJ 2 A (cK (bZ 1 A (aP A (dM A A A) (aM 1 A (?_))))))))
 refine dB (aZ 8 [7,6,0,4,1] A A (by decide) ?_)
 exact cG (k+1) ⟨m24,ps24,z24⟩ ⟨by omega,hG2.trans gm24.gr,⟨by dsimp only;omega,by dsimp only;omega⟩,⟨hs2.1,by have h9:=hs2.2;dsimp only;omega⟩,hpm24,⟨o1mhR24,o2mhR24,o3mhR24⟩⟩ (by omega) (cT A) (dS A)
 refine bR (hH A (cK (bZ 1 A (aP A (dM A A A) (dJ 1 A ?_)))))
 exact cG (k+1) qq ⟨by omega,hG2,hp2,hs2,hps2,⟨o1q,o2q,o3q⟩⟩ (by omega) (cT A) (dS A)
 refine bR (aS A ?_)
 refine bM (dI ?_)
 refine aO (bF (cF (aP A (aF (cs:=[jI qq.o.ins,qq.o.sv,qq.o.av,qq.o.ov]) A A A A A (aD 1 A 0 A)) (aM 2 A ?_))))
 refine eB A A A (aJ A A (fun w hm=>rQ qq.o q.s qq.s w ((hps2 w (hm.holds _ (bX (i:=0) A))).rds (aG 2 A w hm)) hG2.ok (by first|omega|exact iW (by omega)) (by first|omega|exact iW (by omega)))) ?_
 intro v30 p31 R32
 obtain⟨ps32,m32,z32,rfl,rfl,hpm32,⟨o1mhR32,o2mhR32,o3mhR32⟩,cpm32,hom32⟩:=R32
 have gm32:=Dy hG2.ok cpm32 hom32
 have lm32:=gm32.ln
 have cm32:=gm32.gr.cnt
 have rm32:=eX gm32.gr.ok
 refine aM 3 A (cR A (bP (z:=.agg #[jI 0,.slice none 0 0,.slice none 0 0,.slice none 0 0]) A A) ?_)
 intro b33
 refine bI (cs':=#[jI m32.ins,m32.sv,m32.av,m32.ov]) (i:=0) (off:=0) (us:=[jI m32.ins,m32.sv,m32.av,m32.ov]) A A A A A A A (aA A (aA o1mhR32 (aA o2mhR32 (aA o3mhR32 bA)))) A A A (aU 1 A (aC (aC (bZ 1 A ?_))))
 refine bQ A A A A A A (fun h34=>?_) (fun h34=>?_)
 refine bR (aR A (cF (aP A (aF (cs:=[jI n.ins,n.sv,n.av,n.ov]) A A A A A (aD 7 A 0 A)) ?_)))
 refine eB A A A (aJ A A (fun w hm=>fA n w (hr.below hm.bel) hn)) ?_
 intro v35 p36 R37
 obtain⟨pqc,mc,rfl,rfl,hpqc,⟨o1mc,o3mc⟩,hcpmc⟩:=R37
 refine iA (fun w hm=>(aG 1 A w hm).one) (fun o2mc=>?_)
 refine bI (cs':=#[jI mc.ins,mc.sv,mc.av,mc.ov]) (i:=9) (off:=0) (us:=[jI mc.ins,mc.sv,mc.av,mc.ov]) A A A A A A A (aA A (aA o1mc (aA o2mc (aA o3mc bA)))) A A A (aU 1 A ?_)
 refine aV (aL ?_)
 refine aQ (fL ?_)
 refine aQ (aL ?_)
 refine aZ 11 [9,0,1,2] A A (by decide) ?_
 refine cB 2 A ?_
 refine aZ 3 [2,0,1] A A (by decide) ?_
 exact bV (rs:=[.cell 6 28,.tmp 7]) (vs:=[.agg #[jI mc.ins,mc.sv,mc.av,mc.ov],jI (-1)]) (post:=[rS9 46 3 mc.sv mc.ss sqC,bigE [bigE pqc,rS9 67 2 mc.av mc.gs anC]]) A ⟨⟨b2,0,[jI mc.ins,mc.sv,mc.av,mc.ov],A,A,by kernel_rfl,by kernel_rfl,aD 2 A 0 A⟩,A,trivial⟩ A (eJ [0,0] A) ⟨_,mc,_,A,A,fun w hw=>⟨(hpqc w (aX hw cL)).1,bT (aX hw (dK cL)),(hpqc w (aX hw cL)).2⟩,⟨o1mc,o2mc,o3mc⟩,hcpmc.grw hn,by have h9:=eX (hcpmc.grw hn).ok;omega⟩
 refine bR (aS A (bY (cF (aP A (aF (cs:=[jI m32.ins,m32.sv,m32.av,m32.ov]) A A A A A (aD 0 A 0 A)) ?_))))
 refine bI (cs':=#[jI m32.ins,m32.sv,m32.av,m32.ov]) (i:=4) (off:=0) (us:=[jI m32.ins,m32.sv,m32.av,m32.ov]) A A A A A A A (aA A (aA o1mhR32 (aA o2mhR32 (aA o3mhR32 bA)))) A A A (bR (bJ (dJ 2 A (cK (bZ 1 A (aP A (dM A A A) (aM 1 A (?_))))))))
 refine dB (aZ 8 [7,6,1,4,2] A A (by decide) ?_)
 exact cG (i+1) ⟨m32,ps32,z32⟩ ⟨by omega,hG2.trans gm32.gr,⟨by dsimp only;omega,by dsimp only;omega⟩,hpm32,⟨o1mhR32,o2mhR32,o3mhR32⟩⟩ (by omega) (cT A) (dS A)
 refine bR (aS A ?_)
 refine bM (dI ?_)
 refine aO (bF (cF (aP A (aF (cs:=[jI q.o.ins,q.o.sv,q.o.av,q.o.ov]) A A A A A (aD 1 A 0 A)) (aM 1 A ?_))))
 refine bI (cs':=#[jI q.o.ins,q.o.sv,q.o.av,q.o.ov]) (i:=3) (off:=0) (us:=[jI q.o.ins,q.o.sv,q.o.av,q.o.ov]) A A A A A A A (aA A (aA o1o (aA o2o (aA o3o bA)))) A A A (aU 1 A ?_)
 refine aV (aZ 5 [3,0,2] A A (by decide) ?_)
 exact bV (rs:=[.cell 6 28,.tmp 7]) (vs:=[.agg #[jI q.o.ins,q.o.sv,q.o.av,q.o.ov],jI q.s]) (post:=[rS9 46 3 q.o.sv q.o.ss sqC,bigE q.ps]) A ⟨⟨b2,0,[jI q.o.ins,q.o.sv,q.o.av,q.o.ov],A,A,by kernel_rfl,by kernel_rfl,aD 2 A 0 A⟩,A,trivial⟩ A (eJ [0,0] A) ⟨_,q.o,_,A,A,hps,⟨o1o,o2o,o3o⟩,hG,hs.2⟩
theorem vI {w:World}{v:Value}{ss:List Sq}(h:(sqsE v ss).holds w):RdsW w v 3 ss.length (ss.flatMap sqC)∧∀s∈ss,RdsW w s.iv 1 s.xs.length (s.xs.map (Value.int .i64)):=⟨bT (aX h (List.mem_cons_of_mem _ List.mem_cons_self)),fun s hs=>bT (aX (aX h List.mem_cons_self) (List.mem_map.2 ⟨s,hs,rfl⟩))⟩
def PartP (n:Int) (P:List Oq) (c:Int):Prop:=(∀i,i<P.length→1≤needK P i∧OqP n (P.getD i oq0))∧needK P P.length=c
structure BldP (D:List Md) (m:Md) (P:List Int):Prop where
  sg:∀s∈m.ss,SgP s
  gs:∀g∈m.gs,AsP m g
  xs:∀x∈m.xs,((0≤x.m∧x.m<D.length)∧x.ps.length=(ptsK (D.getD x.m.toNat md0)).length)∧IxP D m x
  ms:∀x∈m.ms,MmP m x
  dr:∀s,s<m.ss.length→(drvL D m).count (s:Int)=if (m.ss.getD s sg0).k=0 then 0 else if (s:Int)∈P then 0 else 1
  pn:∀x∈P,1≤knd m x∧knd m x≤3
structure ExtD (m m':Md):Prop where
  len:m.ss.length≤m'.ss.length
  kk:∀i,i<m.ss.length→(m'.ss.getD i sg0).k=(m.ss.getD i sg0).k
def nPt (ss:List Sg):Nat:=(ss.filter isPt).length
structure DmP (D:List Md) (m:Md):Prop where
  b:BldP D m []
  len:LenP m
  pt:nPt m.ss≤4
structure DdP (D:List Md):Prop where
  md:∀k,k<D.length→DmP (D.take k) (D.getD k md0)
  len:D.length≤3
theorem jC (g:Nat) (a:Option Addr) (len cap:Nat) (z:List Int) (v:Value) (L:List Int) (w0:World) (l:List HP) (w:World) (hm0:Mem w0 (curE g a len cap::l) w) (hb:BRow .u8 w0 a len cap z) (hv:Rd w0 l v 1 L.length (L.map (Value.int .i64))) (hL:1≤L.length∧L.length≤256) :
   Calls Tryz.prog 79 #[.pointer (some ⟨g,0,none⟩),v] w (fun e_ w_=>∃v_ p_,e_=.returned v_∧(fun u_ p_=>(∃x:Int,u_=.int .i64 x∧x∈L)∧p_=curE g a len cap) v_ p_∧Mem w0 (p_::l) w_):=by
 refine fW (N:=12) (args:=[pI g,v]) Tryz.func79 A A hm0 (bD 1 A (aC (bZ 3 A ?_)))
 refine aP A (bC A Tryz.underlying26 A (fun w hm=>hv w (hm.sub (.cons _ (.refl _))))) (eH (R:=(fun u_ p_=>(∃x_:Int,u_=jI x_∧0≤x_∧x_<(L.length:Int))∧p_=curE g a len cap)) 0 A A A A A (fun l' w hm=>dW g a len cap z (L.length:Int) _ _ _ hm hb (by constructor<;>omega)) ?_)
 intro v1 p2 R3
 obtain⟨⟨x3,rfl,x30,x31⟩,rfl⟩:=R3
 refine eC (l':=(curE g a len cap::l)) A ?_
 refine aP A (dF 1 A A A A (fun w hm=>hv w (hm.sub (.cons _ (.refl _))))) (aP A (rR A A A (fun w hm=>hv w (hm.sub (.cons _ (.refl _))))) ?_)
 refine aU 1 A ?_
 exact aV (eG (rs:=[.tmp 4]) (vs:=[jI (L.getD (x3.toNat) 0)]) A ⟨A,trivial⟩ A (fun w hm=>⟨_,curE g a len cap,A,⟨⟨_,A,dO (es:=L) (d:=0) (by omega)⟩,A⟩,hm.sub (.refl _)⟩))
theorem tV {w0:World}{l:List HP}{L:List Int}{q:HP}(h:∀x∈L,x≤9223372036854775807):∀e w',(∃v_ p_,e=Ending.returned v_∧(fun u_ p_=>(∃x:Int,u_=.int .i64 x∧x∈L)∧p_=q) v_ p_∧Mem w0 (p_::l) w')→∃v_ p_,e=Ending.returned v_∧(fun u_ p_=>(∃x:Int,u_=.int .i64 x∧x≤9223372036854775807)∧p_=q) v_ p_∧Mem w0 (p_::l) w':=fun e w' ⟨v,p,h1,⟨⟨x,h2,h3⟩,h4⟩,h5⟩=>⟨v,p,h1,⟨⟨x,h2,h x h3⟩,h4⟩,h5⟩
theorem rW (g:Nat) (a:Option Addr) (len cap:Nat) (z:List Int) (K:Int) (w0:World) (l:List HP) (w:World) (hm0:Mem w0 (curE g a len cap::l) w) (hb:BRow .u8 w0 a len cap z) (hK:1≤K∧K≤100) :
   Calls Tryz.prog 80 #[.pointer (some ⟨g,0,none⟩),.int .i64 K] w (fun e_ w_=>∃v_ p_,e_=.returned v_∧(fun u_ p_=>(∃x:Int,u_=.int .i64 x∧x≤9223372036854775807)∧p_=curE g a len cap) v_ p_∧Mem w0 (p_::l) w_):=by
 refine fW (N:=16) (args:=[pI g,jI K]) Tryz.func80 A A hm0 (bD 1 A (aC (aC (bZ 1 A ?_))))
 refine eH (R:=(fun u_ p_=>(∃b:Bool,u_=.bool b)∧p_=curE g a len cap)) 0 A A A A A (fun l' w hm=>qQ hm hb (15) (by omega) (by omega)) ?_
 intro v1 p2 R3
 obtain⟨⟨x3,rfl⟩,rfl⟩:=R3
 refine eC (l':=(curE g a len cap::l)) A ?_
 refine bW (fun h4=>?_) (fun h4=>?_)
 refine bR (aR A (aC (bZ 3 A (aP A (dM A A A) ?_))))
 refine dP A (bB (z:=jI 0) (s:=1) (cs:=(mI [-1,K,K+1,9223372036854775807, -9223372036854775808])) A Tryz.underlying26 A (by decide) A (by kernel_rfl) A) ?_
 intro g5
 refine gK (R:=(fun u_ p_=>(∃x:Int,u_=jI x∧x≤9223372036854775807)∧p_=curE g a len cap)) 1 A A A A A (fun L w hX hm=>(jC g a len cap z (.slice (some ⟨g5,0,none⟩) 5 5) ([(-1),K,(K+1),9223372036854775807,(-9223372036854775808)]:List Int) _ _ _ hm hb (fun w hm=>Ff (hX w hm) 0 A) (by simp)).mono (tV (fun y hy=>by simp only[List.mem_cons,List.not_mem_nil,or_false] at hy;omega))) ?_
 intro v6 p7 R8
 obtain⟨⟨x8,rfl,x8m⟩,rfl⟩:=R8
 refine eC (l':=(rowE 3 1 (.slice (some ⟨g5,0,none⟩) 5 5) 5 (mI [-1,K,K+1,9223372036854775807, -9223372036854775808])::curE g a len cap::l)) A ?_
 refine aU 1 A ?_
 refine aV (aL ?_)
 exact eG (rs:=[.tmp 4]) (vs:=[jI x8]) A ⟨A,trivial⟩ A (fun w hm=>⟨_,curE g a len cap,A,⟨⟨_,A,by omega⟩,A⟩,hm.sub (.cons _ (.refl _))⟩)
 refine bR (aS A (bY (aC (bZ 2 A ?_))))
 refine eH (R:=(fun u_ p_=>(∃x_:Int,u_=jI x_∧0≤x_∧x_<K)∧p_=curE g a len cap)) 0 A A A A A (fun l' w hm=>dW g a len cap z K _ _ _ hm hb (by constructor<;>omega)) ?_
 intro v9 p10 R11
 obtain⟨⟨x11,rfl,x110,x111⟩,rfl⟩:=R11
 refine eC (l':=(curE g a len cap::l)) A ?_
 refine aU 1 A ?_
 exact aV (eG (rs:=[.tmp 4]) (vs:=[jI x11]) A ⟨A,trivial⟩ A (fun w hm=>⟨_,curE g a len cap,A,⟨⟨_,A,by omega⟩,A⟩,hm.sub (.refl _)⟩))
theorem lG {n:Nt}(h:NtSm n) {x:Int}{v:Value}(hl:n.os.length≤30) (hx:x≤9223372036854775807):NtSm { n with ov:=v,os:=n.os++[x] }:=⟨h.s1,h.a1,by dsimp only;rw[List.length_append,List.length_singleton];omega,h.x4,h.mx,h.mg,fun y hy=>by
  rcases List.mem_append.1 hy with hy|hy
  · exact h.mo y hy
  · rw[List.mem_singleton] at hy;subst hy;exact hx⟩
theorem Bs {α:Type}{l:List α}{x d:α}{k:Nat}(h:k<(l++[x]).length):(k<l.length∧(l++[x]).getD k d=l.getD k d)∨(l++[x]).getD k d=x:=by
  rw[List.length_append,List.length_singleton] at h
  rcases Nat.lt_or_ge k l.length with h9|h9
  · exact .inl ⟨h9,by rw[List.getD_eq_getElem?_getD,List.getElem?_append_left h9,←List.getD_eq_getElem?_getD]⟩
  · exact .inr (by rw[List.getD_eq_getElem?_getD,List.getElem?_append_right h9,show k-l.length=0 by omega];rfl)
theorem Dp {gs:List An}{g:An}(h:∀k,k<gs.length→(gs.getD k an0).a≤9223372036854775807∧(gs.getD k an0).b≤9223372036854775807) (hg:g.a≤9223372036854775807∧g.b≤9223372036854775807):∀k,k<(gs++[g]).length→((gs++[g]).getD k an0).a≤9223372036854775807∧((gs++[g]).getD k an0).b≤9223372036854775807:=fun k hk=>by
  rcases Bs (d:=an0) hk with⟨h1,e⟩|e
  · rw[e];exact h k h1
  · rw[e];exact hg
theorem lH {n:Nt}(h:NtSm n) {g:An}{v:Value}(hl:n.gs.length≤390) (hx:g.a≤9223372036854775807∧g.b≤9223372036854775807):NtSm { n with av:=v,gs:=n.gs++[g] }:=⟨h.s1,by dsimp only;rw[List.length_append,List.length_singleton];omega,h.o1,h.x4,h.mx,Dp h.mg hx,h.mo⟩
theorem lF {n:Nt}(h:NtSm n) {a b:Int}{v iv:Value}(hl:n.ss.length≤10):NtSm { n with sv:=v,ss:=n.ss++[Sq.mk a b iv [0]] }:=⟨by dsimp only;rw[List.length_append,List.length_singleton];omega,h.a1,h.o1,fun s hs=>by
  rcases List.mem_append.1 hs with hs|hs
  · exact h.x4 s hs
  · rw[List.mem_singleton] at hs;subst hs;show 1≤4;decide,fun s hs x hx=>by
  rcases List.mem_append.1 hs with hs|hs
  · exact h.mx s hs x hx
  · rw[List.mem_singleton] at hs;subst hs;rw[List.mem_singleton.1 hx];decide,h.mg,h.mo⟩
theorem mo_app {zs:List Int}{x:Int}(h:∀y∈zs,y≤9223372036854775807) (hx:x≤9223372036854775807):∀y∈zs++[x],y≤9223372036854775807:=fun y hy=>by
  rcases List.mem_append.1 hy with hy|hy
  · exact h y hy
  · rw[List.mem_singleton] at hy;subst hy;exact hx
theorem yP (g:Nat) (a:Option Addr) (len cap:Nat) (z:List Int) (w0:World) (l:List HP) (w:World) (hm0:Mem w0 (curE g a len cap::l) w) (hb:BRow .u8 w0 a len cap z) :
   Calls Tryz.prog 37 #[.pointer (some ⟨g,0,none⟩)] w (fun e_ w_=>∃v_ p_,e_=.returned v_∧(fun u_ p_=>∃n:Nt,u_=n.agg∧p_=bigE [curE g a len cap,ntE n]∧(n.sv.oneCell'=true∧n.av.oneCell'=true∧n.ov.oneCell'=true)∧NtSm n) v_ p_∧Mem w0 (p_::l) w_):=by
 refine fW (N:=84) (args:=[pI g]) Tryz.func37 A A hm0 (cF ?_)
 refine cR A (bP (z:=.agg #[jI 0,.slice none 0 0,.slice none 0 0,.slice none 0 0]) A A) ?_
 intro b1
 refine bR (aC (bZ 1 A ?_))
 refine eH (R:=(fun u_ p_=>∃n:Nt,u_=n.agg∧p_=bigE [curE g a len cap,ntE n]∧(n.sv.oneCell'=true∧n.av.oneCell'=true∧n.ov.oneCell'=true)∧NtOk n∧n.ins≤4∧(n.ss.length:Int)≤3∧(n.gs.length:Int)≤14∧1≤n.os.length)) 1 A A A A A (fun l' w hm=>qU g a len cap z _ _ _ hm hb) ?_
 intro v2 p3 R4
 obtain⟨n,rfl,rfl,⟨o1n,o2n,o3n⟩,hn,hnq1,hnq2,hnq3,hnq4⟩:=R4
 refine eC (l':=(eB9 b1::bigE [curE g a len cap,ntE n]::l)) A ?_
 refine cR A (bP (z:=.agg #[jI 0,.slice none 0 0,.slice none 0 0,.slice none 0 0]) A A) ?_
 intro b5
 refine bI (cs':=#[jI n.ins,n.sv,n.av,n.ov]) (i:=0) (off:=0) (us:=[jI n.ins,n.sv,n.av,n.ov]) A A A A A A A (aA A (aA o1n (aA o2n (aA o3n bA)))) A A A (bR (eP ?_))
 refine iR 3 [1,0,2] A A (by decide) ?_
 refine jE (curE g a len cap::ntE n::nB9 b5 n::eB9 b1::l) gD ?_
 refine iR 4 [3,2,0,1] A A (by decide) ?_
 refine jE (sqsE n.sv n.ss::rS9 67 2 n.av n.gs anC::rI9 3 n.ov n.os::curE g a len cap::nB9 b5 n::eB9 b1::l) gD ?_
 refine jE (bigE (n.ss.map sqPart)::rS9 46 3 n.sv n.ss sqC::rS9 67 2 n.av n.gs anC::rI9 3 n.ov n.os::curE g a len cap::nB9 b5 n::eB9 b1::l) gD ?_
 have hi0:=hn.i0
 have hi1:=hn.i1
 have hs1:=hn.s1
 have ha1:=hn.a1
 have ho1:=hn.o1
 have hcnt:n.cnt=1+n.ins+n.ss.length+n.gs.length:=rfl
 have hfst:n.fst=1+n.ins+n.ss.length:=rfl
 have hs9:=hn.sm
 refine aM 1 A (eH (R:=(fun u_ p_=>(∃x_:Int,u_=jI x_∧0≤x_∧x_<16)∧p_=curE g a len cap)) 4 A A A A A (fun l' w hm=>dW g a len cap z 16 _ _ _ hm hb (by constructor<;>omega)) ?_)
 intro v6 p7 R8
 obtain⟨⟨x8,rfl,x80,x81⟩,rfl⟩:=R8
 refine eC (l':=(bigE (n.ss.map sqPart)::rS9 46 3 n.sv n.ss sqC::rS9 67 2 n.av n.gs anC::rI9 3 n.ov n.os::curE g a len cap::nB9 b5 n::eB9 b1::l)) A ?_
 refine bR (bE (cF ?_))
 refine cM A A A A A A (fun h9=>?_) (fun h9=>?_)
 refine aU 1 A (aR A (bZ 1 A ?_))
 refine dP A (bB (z:=jI 0) (s:=1) (cs:=(mI [-1,0,20,21,9223372036854775807, -9223372036854775808])) A Tryz.underlying26 A (by decide) A (by kernel_rfl) A) ?_
 intro g10
 refine gK (R:=(fun u_ p_=>(∃x:Int,u_=jI x∧x≤9223372036854775807)∧p_=curE g a len cap)) 5 A A A A A (fun L w hX hm=>(jC g a len cap z (.slice (some ⟨g10,0,none⟩) 6 6) ([-1,0,20,21,9223372036854775807, -9223372036854775808]:List Int) _ _ _ hm hb (fun w hm=>Ff (hX w hm) 0 A) (by simp)).mono (tV (by decide))) ?_
 intro v11 p12 R13
 obtain⟨⟨x13,rfl,x13m⟩,rfl⟩:=R13
 refine eC (l':=(rowE 3 1 (.slice (some ⟨g10,0,none⟩) 6 6) 6 (mI [-1,0,20,21,9223372036854775807, -9223372036854775808])::bigE (n.ss.map sqPart)::rS9 46 3 n.sv n.ss sqC::rS9 67 2 n.av n.gs anC::rI9 3 n.ov n.os::curE g a len cap::nB9 b5 n::eB9 b1::l)) A ?_
 refine aP A (cQ 0 A A A) (fI (i:=6) (cs':=#[jI x13,n.sv,n.av,n.ov]) A A A A A A A A A A A ?_)
 refine dB (cK (cF (aP A (aF (cs:=[jI x13,n.sv,n.av,n.ov]) A A A A A (aD 6 A 0 A)) ?_)))
 refine bI (cs':=#[jI x13,n.sv,n.av,n.ov]) (i:=7) (off:=0) (us:=[jI x13,n.sv,n.av,n.ov]) A A A A A A A (aA A (aA o1n (aA o2n (aA o3n bA)))) A A A (bR ?_)
 refine aV (cY (fun w hm=>(aG 2 A w hm).one) (fun hw1=>?_))
 refine cY (fun w hm=>(aG 3 A w hm).one) (fun hw2=>?_)
 refine cY (fun w hm=>(aG 4 A w hm).one) (fun hw3=>?_)
 refine aZ 8 [7,6,5,4,3,0,2,1] A A (by decide) ?_
 refine cB 2 A ?_
 refine aZ 7 [6,5,4,1,3,2,0] A A (by decide) ?_
 refine cB 3 A ?_
 refine cZ (ntE (Nt.mk x13 n.sv n.av n.ov n.ss n.gs n.os)::rowE 3 1 (.slice (some ⟨g10,0,none⟩) 6 6) 6 (mI [-1,0,20,21,9223372036854775807, -9223372036854775808])::curE g a len cap::boxE b5 #[jI x13,n.sv,n.av,n.ov] 28::boxE b1 #[jI x13,n.sv,n.av,n.ov] 28::l) (fun w hm=>hm) ?_
 refine aZ 5 [4,3,1,0,2] A A (by decide) ?_
 refine cB 2 A ?_
 exact eG (rs:=[.cell 2 28]) (vs:=[.agg #[jI x13,n.sv,n.av,n.ov]]) A ⟨⟨b1,0,[jI x13,n.sv,n.av,n.ov],A,A,by kernel_rfl,by kernel_rfl,aD 3 A 0 A⟩,trivial⟩ A (fun w hm=>⟨_,bigE [curE g a len cap,ntE (Nt.mk x13 n.sv n.av n.ov n.ss n.gs n.os)],A,⟨(Nt.mk x13 n.sv n.av n.ov n.ss n.gs n.os),A,A,⟨hw1,hw2,hw3⟩,by first|exact hs9|exact⟨hs9.s1,hs9.a1,hs9.o1,hs9.x4,hs9.mx,hs9.mg,hs9.mo⟩|exact lG hs9 (by omega) (by omega)|exact lH hs9 (by omega) ⟨by dsimp only;omega,by dsimp only;omega⟩|exact lF hs9 (by omega)|exact⟨hs9.s1,hs9.a1,by dsimp only;omega,hs9.x4,hs9.mx,hs9.mg,hom⟩|exact⟨hs9.s1,by dsimp only;omega,hs9.o1,hs9.x4,hs9.mx,hgm,hs9.mo⟩⟩,hm.sub (.cons_cons _ (kE 3 A))⟩)
 refine aU 1 A (aS A (cF ?_))
 refine cM A A A A A A (fun h14=>?_) (fun h14=>?_)
 refine aU 1 A (aR A ?_)
 refine eE 7 [6,5,3,2,1,0,4] A A (by decide) ?_
 refine gG (l:=(bigE (n.ss.map sqPart)::rS9 46 3 n.sv n.ss sqC::rS9 67 2 n.av n.gs anC::rI9 3 n.ov n.os::nB9 b5 n::eB9 b1::l)) A 6 [0,1,2,3,4,5] (List.take 6 _) (List.drop 6 _) [[],[0],[],[],[2,3],[4]] [16,17,18,19,20,21] (fun i_ vs_ v_ p_=>match i_ with|0=>v_=.pointer (some ⟨b5,0+3,none⟩)∧p_=[]|1=>v_=n.ov∧p_=[]|2=>v_=pI g∧p_=[]|3=>IsRow 3 1 5 (mI [-1,0,1,600,9223372036854775807]) v_ p_|4=>(∃pm_,p_=[pm_]∧(fun u_ p_=>(∃x:Int,u_=jI x∧x≤9223372036854775807)∧p_=curE g a len cap) v_ pm_)|5=>IsRow 3 1 1 (mI [(intOf_o (gV9 vs_ 0))]) v_ p_|_=>True) [[],[0],[],[],[2,3],[4]] [none,none,none,none,some 9,none] [curE g a len cap] [0,1,2,3,4,5] 9 (List.take_append_drop 6 _).symm (by kernel_rfl) (by kernel_rfl) (by kernel_rfl) A A ?_ ?_
 refine⟨?_,?_,?_,?_,?_,?_,trivial⟩
 intro vf pf hmu hR
 refine fG [] [] A (bH (aI [3] A) ?_)
 exact aT (cQ 3 A A A)
 intro vf pf hmu hR
 have e0:=hR 0 (by decide)
 refine fG [0] [0] A (aW (sk 16 (congrArg some e0.1) (aB _)) (List.sublist_append_right _ _) ?_)
 exact aT (aN A A A (aH 4 A A))
 intro vf pf hmu hR
 refine fG [] [] A (bH (aI [0] A) ?_)
 exact aT (aK A)
 intro vf pf hmu hR
 refine fG [] [] A (aW (aB _) (List.sublist_append_right _ _) ?_)
 exact bB (z:=jI 0) (s:=1) (cs:=(mI [-1,0,1,600,9223372036854775807])) A Tryz.underlying26 A (by decide) A (by kernel_rfl) A
 intro vf pf hmu hR
 have e2:=hR 2 (by decide)
 have e3:IsRow 3 1 5 (mI [-1,0,1,600,9223372036854775807]) (vf 3) (pf 3):=hR 3 (by decide)
 obtain⟨g15,vE3,pE3⟩:=e3
 refine Or.inl ⟨A,?_⟩
 show RunM _ _ _ (pf 9) (([2,3]:List Nat).flatMap pf++_) (envOf _ vf [2,3]++_) _ _
 rw[hmu]
 exact cV (sk 18 (congrArg some e2.1) (sk 19 (congrArg some vE3) (aB _))) (by simp only[pE3,vE3,e2.2,fS]<;>rfl) (eY (R:=(fun u_ p_=>(∃x:Int,u_=jI x∧x≤9223372036854775807)∧p_=curE g a len cap)) A A (fun L w hX hm=>(jC g a len cap z (.slice (some ⟨g15,0,none⟩) 5 5) ([-1,0,1,600,9223372036854775807]:List Int) _ _ _ hm hb (fun w hm=>Ff (hX w hm) 0 A) (by simp)).mono (tV (by decide))))
 intro vf pf hmu hR
 have e4:(∃pm_,(pf 4)=[pm_]∧(fun u_ p_=>(∃x:Int,u_=jI x∧x≤9223372036854775807)∧p_=curE g a len cap) (vf 4) pm_):=hR 4 (by decide)
 obtain⟨p17,pE4,R18⟩:=e4
 obtain⟨v16,vE4⟩:∃x,vf 4=x:=⟨_,rfl⟩
 rw[vE4] at R18
 obtain⟨⟨x18,rfl,x18m⟩,rfl⟩:=R18
 refine fG [4] [4] A (bU (sk 20 (congrArg some vE4) (aB _)) (by simp only[pE4,vE4,fS]<;>rfl) ?_)
 exact cD (bB (z:=jI 0) (s:=1) (cs:=(mI [x18])) A Tryz.underlying26 A (by decide) A (by kernel_rfl) A) (fun v_ p_ h=>by show IsRow 3 1 1 (mI [(intOf_o (vf 4))]) v_ p_;rw[vE4];exact h)
 intro vf pf hmu hR
 have e1:=hR 1 (by decide)
 have e3:IsRow 3 1 5 (mI [-1,0,1,600,9223372036854775807]) (vf 3) (pf 3):=hR 3 (by decide)
 obtain⟨g15,vE3,pE3⟩:=e3
 have e4:(∃pm_,(pf 4)=[pm_]∧(fun u_ p_=>(∃x:Int,u_=jI x∧x≤9223372036854775807)∧p_=curE g a len cap) (vf 4) pm_):=hR 4 (by decide)
 obtain⟨p17,pE4,R18⟩:=e4
 obtain⟨v16,vE4⟩:∃x,vf 4=x:=⟨_,rfl⟩
 rw[vE4] at R18
 obtain⟨⟨x18,rfl,x18m⟩,rfl⟩:=R18
 have e5:IsRow 3 1 1 (mI [(intOf_o (vf 4))]) (vf 5) (pf 5):=hR 5 (by decide)
 rw[vE4] at e5
 obtain⟨g19,vE5,pE5⟩:=e5
 have q0:=hR 0 (by decide)
 have q1:=hR 1 (by decide)
 have q2:=hR 2 (by decide)
 refine cE (bO [14,8,7,3,2,0] _ (sk 17 (congrArg some e1.1) (sk 21 (congrArg some vE5) (aB _))) A) (by simp only[pE3,vE3,pE4,vE4,pE5,vE5,q0.2,q1.2,q2.2,fS]<;>rfl) ?_
 simp only[List.drop_succ_cons,List.drop_zero]
 refine cW (i:=6) (z:=jI 0) (bytes:=8) A A A A Tryz.underlying26 (by kernel_rfl) A A A A (aG 2 A) (cO _) (by first|omega|(simp;done)|(simp;omega)) (cH n.os ([x18])) (dL n.os ([x18])) (fun _=>A) ?_
 intro v20
 refine aP A (cQ 3 A A A) (dZ (i:=6) A (fun ho21=>?_))
 refine fI (i:=7) (cs':=#[jI n.ins,n.sv,n.av,v20]) A A A A A A ho21 A A A A (dB (cK (cF (aP A (aF (cs:=[jI n.ins,n.sv,n.av,v20]) A A A A A (aD 7 A 0 A)) ?_))))
 refine bI (cs':=#[jI n.ins,n.sv,n.av,v20]) (i:=8) (off:=0) (us:=[jI n.ins,n.sv,n.av,v20]) A A A A A A A (aA A (aA o1n (aA o2n (aA ho21 bA)))) A A A (bR ?_)
 refine aV (cY (fun w hm=>(aG 4 A w hm).one) (fun hw1=>?_))
 refine cY (fun w hm=>(aG 5 A w hm).one) (fun hw2=>?_)
 refine cY (fun w hm=>(aG 6 A w hm).one) (fun hw3=>?_)
 refine aZ 9 [8,7,6,5,2,1,0,4,3] A A (by decide) ?_
 refine cB 2 A ?_
 refine aZ 8 [7,6,3,2,1,5,4,0] A A (by decide) ?_
 refine cB 3 A ?_
 refine cZ (ntE (Nt.mk n.ins n.sv n.av v20 n.ss n.gs (n.os++([x18])))::rowE 3 1 (.slice (some ⟨g15,0,none⟩) 5 5) 5 (mI [-1,0,1,600,9223372036854775807])::curE g a len cap::rowE 3 1 (.slice (some ⟨g19,0,none⟩) 1 1) 1 (mI [x18])::boxE b5 #[jI n.ins,n.sv,n.av,v20] 28::boxE b1 #[jI n.ins,n.sv,n.av,v20] 28::l) (fun w hm=>hm) ?_
 refine aZ 6 [5,4,3,1,0,2] A A (by decide) ?_
 refine cB 2 A ?_
 exact eG (rs:=[.cell 2 28]) (vs:=[.agg #[jI n.ins,n.sv,n.av,v20]]) A ⟨⟨b1,0,[jI n.ins,n.sv,n.av,v20],A,A,by kernel_rfl,by kernel_rfl,aD 4 A 0 A⟩,trivial⟩ A (fun w hm=>⟨_,bigE [curE g a len cap,ntE (Nt.mk n.ins n.sv n.av v20 n.ss n.gs (n.os++([x18])))],A,⟨(Nt.mk n.ins n.sv n.av v20 n.ss n.gs (n.os++([x18]))),A,A,⟨hw1,hw2,hw3⟩,by first|exact hs9|exact⟨hs9.s1,hs9.a1,hs9.o1,hs9.x4,hs9.mx,hs9.mg,hs9.mo⟩|exact lG hs9 (by omega) (by omega)|exact lH hs9 (by omega) ⟨by dsimp only;omega,by dsimp only;omega⟩|exact lF hs9 (by omega)|exact⟨hs9.s1,hs9.a1,by dsimp only;omega,hs9.x4,hs9.mx,hs9.mg,hom⟩|exact⟨hs9.s1,by dsimp only;omega,hs9.o1,hs9.x4,hs9.mx,hgm,hs9.mo⟩⟩,hm.sub (.cons_cons _ (kE 4 A))⟩)
 refine aU 1 A (aS A (cF ?_))
 refine cM A A A A A A (fun h22=>?_) (fun h22=>?_)
 refine aU 1 A (aR A ?_)
 refine eE 7 [6,5,3,2,1,0,4] A A (by decide) ?_
 refine gG (l:=(bigE (n.ss.map sqPart)::rS9 46 3 n.sv n.ss sqC::rS9 67 2 n.av n.gs anC::rI9 3 n.ov n.os::nB9 b5 n::eB9 b1::l)) A 9 [0,1,2,3,4,5,6,7,8] (List.take 9 _) (List.drop 9 _) [[],[0],[],[2],[3],[],[5],[4,6],[6,7]] [26,27,28,29,30,31,32,33,34] (fun i_ vs_ v_ p_=>match i_ with|0=>v_=.pointer (some ⟨b5,0+2,none⟩)∧p_=[]|1=>v_=n.av∧p_=[]|2=>v_=.agg #[jI n.ins,n.sv,n.av,n.ov]∧p_=[]|3=>v_=jI n.cnt∧p_=[]|4=>v_=jI (2*n.cnt)∧p_=[]|5=>v_=pI g∧p_=[]|6=>(∃pm_,p_=[pm_]∧(fun u_ p_=>(∃x:Int,u_=jI x∧x≤9223372036854775807)∧p_=curE g a len cap) v_ pm_)|7=>v_=.agg #[jI (2*n.cnt),jI (intOf_o (gV9 vs_ 1))]∧p_=[]|8=>IsRow 67 2 1 (mI [2*n.cnt,(intOf_o (gV9 vs_ 0))]) v_ p_|_=>True) [[],[0],[],[2],[3],[],[5],[4,6],[6,7]] [none,none,none,none,none,none,some 12,none,none] [curE g a len cap] [0,1,2,3,4,5,6,7,8] 12 (List.take_append_drop 9 _).symm (by kernel_rfl) (by kernel_rfl) (by kernel_rfl) A A ?_ ?_
 refine⟨?_,?_,?_,?_,?_,?_,?_,?_,?_,trivial⟩
 intro vf pf hmu hR
 refine fG [] [] A (bH (aI [3] A) ?_)
 exact aT (cQ 2 A A A)
 intro vf pf hmu hR
 have e0:=hR 0 (by decide)
 refine fG [0] [0] A (aW (sk 26 (congrArg some e0.1) (aB _)) (List.sublist_append_right _ _) ?_)
 exact aT (aN A A A (aH 4 A A))
 intro vf pf hmu hR
 refine fG [] [] A (aW (aI [3] A) (List.sublist_append_right _ _) ?_)
 exact aT (aF (cs:=[jI n.ins,n.sv,n.av,n.ov]) A A A A A (aD 4 A 0 A))
 intro vf pf hmu hR
 have e2:=hR 2 (by decide)
 refine fG [2] [2] A (aW (sk 28 (congrArg some e2.1) (aB _)) (List.sublist_append_right _ _) ?_)
 exact(aJ rfl rfl (fun w hm=>aY (cS n w (show RdsNt w n from⟨aG 1 rfl w hm,fun s hs=>bT (aX (hm.holds _ (bX (i:=0) rfl)) (List.mem_map.2 ⟨s,hs,rfl⟩)),aG 2 rfl w hm,aG 3 rfl w hm⟩) hn)))
 intro vf pf hmu hR
 have e3:=hR 3 (by decide)
 refine fG [3] [3] A (bH (sk 29 (congrArg some e3.1) (aB _)) ?_)
 exact aT (fO A A A (by constructor<;>omega))
 intro vf pf hmu hR
 refine fG [] [] A (bH (aI [0] A) ?_)
 exact aT (aK A)
 intro vf pf hmu hR
 have e5:=hR 5 (by decide)
 refine Or.inl ⟨A,?_⟩
 show RunM _ _ _ (pf 12) (([5]:List Nat).flatMap pf++_) (envOf _ vf [5]++_) _ _
 rw[hmu]
 exact cV (sk 31 (congrArg some e5.1) (aB _)) (by simp only[e5.2,fS]<;>rfl) (eY (R:=(fun u_ p_=>(∃x:Int,u_=jI x∧x≤9223372036854775807)∧p_=curE g a len cap)) A A (fun L w hX hm=>rW g a len cap z 4 _ _ _ hm hb (by omega)))
 intro vf pf hmu hR
 have e4:=hR 4 (by decide)
 have e6:(∃pm_,(pf 6)=[pm_]∧(fun u_ p_=>(∃x:Int,u_=jI x∧x≤9223372036854775807)∧p_=curE g a len cap) (vf 6) pm_):=hR 6 (by decide)
 obtain⟨p24,pE6,R25⟩:=e6
 obtain⟨v23,vE6⟩:∃x,vf 6=x:=⟨_,rfl⟩
 rw[vE6] at R25
 obtain⟨⟨x25,rfl,x25m⟩,rfl⟩:=R25
 refine fG [4,6] [4,6] A (bU (sk 30 (congrArg some e4.1) (sk 32 (congrArg some vE6) (aB _))) (by simp only[pE6,vE6,e4.2,fS]<;>rfl) ?_)
 exact cD (aT (dQ (cs:=#[jI (2*n.cnt),jI x25]) A A A)) (fun _ _ h=>⟨h.1.trans (by show _=(.agg #[jI (2*n.cnt),jI (intOf_o (vf 6))]:Value);first|(rw[vE6];done)|(rw[vE6];rfl)),h.2⟩)
 intro vf pf hmu hR
 have e6:(∃pm_,(pf 6)=[pm_]∧(fun u_ p_=>(∃x:Int,u_=jI x∧x≤9223372036854775807)∧p_=curE g a len cap) (vf 6) pm_):=hR 6 (by decide)
 obtain⟨p24,pE6,R25⟩:=e6
 obtain⟨v23,vE6⟩:∃x,vf 6=x:=⟨_,rfl⟩
 rw[vE6] at R25
 obtain⟨⟨x25,rfl,x25m⟩,rfl⟩:=R25
 have e7:(vf 7)=.agg #[jI (2*n.cnt),jI (intOf_o (vf 6))]∧(pf 7)=[]:=hR 7 (by decide)
 rw[vE6] at e7
 refine fG [6,7] [6,7] A (bU (sk 33 (congrArg some e7.1) (aB _)) (by simp only[pE6,vE6,e7.2,fS]<;>rfl) ?_)
 exact cD (bB (z:=.agg #[jI 0,jI 0]) (s:=2) (cs:=(mI [2*n.cnt,x25])) A Tryz.underlying25 A (by decide) A (by kernel_rfl) A) (fun v_ p_ h=>by show IsRow 67 2 1 (mI [2*n.cnt,(intOf_o (vf 6))]) v_ p_;rw[vE6];exact h)
 intro vf pf hmu hR
 have e1:=hR 1 (by decide)
 have e6:(∃pm_,(pf 6)=[pm_]∧(fun u_ p_=>(∃x:Int,u_=jI x∧x≤9223372036854775807)∧p_=curE g a len cap) (vf 6) pm_):=hR 6 (by decide)
 obtain⟨p24,pE6,R25⟩:=e6
 obtain⟨v23,vE6⟩:∃x,vf 6=x:=⟨_,rfl⟩
 rw[vE6] at R25
 obtain⟨⟨x25,rfl,x25m⟩,rfl⟩:=R25
 have e8:IsRow 67 2 1 (mI [2*n.cnt,(intOf_o (vf 6))]) (vf 8) (pf 8):=hR 8 (by decide)
 rw[vE6] at e8
 obtain⟨g26,vE8,pE8⟩:=e8
 have q0:=hR 0 (by decide)
 have q1:=hR 1 (by decide)
 have q2:=hR 2 (by decide)
 have q3:=hR 3 (by decide)
 have q4:=hR 4 (by decide)
 have q5:=hR 5 (by decide)
 have q7:=hR 7 (by decide)
 refine cE (bO [24,14,8,7,3,2,0] _ (sk 27 (congrArg some e1.1) (sk 34 (congrArg some vE8) (aB _))) A) (by simp only[pE6,vE6,pE8,vE8,q0.2,q1.2,q2.2,q3.2,q4.2,q5.2,q7.2,fS]<;>rfl) ?_
 simp only[List.drop_succ_cons,List.drop_zero]
 refine cW (i:=4) (z:=.agg #[jI 0,jI 0]) (bytes:=16) A A A A Tryz.underlying25 (by kernel_rfl) A A A A (aG 1 A) (cO _) (by first|omega|(simp only[List.length_append,List.length_cons,List.length_nil];omega)) (cH n.gs [(An.mk (2*n.cnt) x25)]) (dY anC n.gs (An.mk (2*n.cnt) x25) _ A) (fun _=>A) ?_
 intro v27
 refine aP A (cQ 2 A A A) (dZ (i:=4) A (fun ho28=>?_))
 refine fI (i:=6) (cs':=#[jI n.ins,n.sv,v27,n.ov]) A A A A A A ho28 A A A A (dB (cK (cF (aP A (aF (cs:=[jI n.ins,n.sv,v27,n.ov]) A A A A A (aD 6 A 0 A)) ?_))))
 refine bI (cs':=#[jI n.ins,n.sv,v27,n.ov]) (i:=7) (off:=0) (us:=[jI n.ins,n.sv,v27,n.ov]) A A A A A A A (aA A (aA o1n (aA ho28 (aA o3n bA)))) A A A (bR ?_)
 refine aV (cY (fun w hm=>(aG 3 A w hm).one) (fun hw1=>?_))
 refine cY (fun w hm=>(aG 4 A w hm).one) (fun hw2=>?_)
 refine cY (fun w hm=>(aG 5 A w hm).one) (fun hw3=>?_)
 refine aZ 8 [7,6,5,4,1,0,3,2] A A (by decide) ?_
 refine cB 2 A ?_
 refine aZ 7 [6,5,2,1,4,3,0] A A (by decide) ?_
 refine cB 3 A ?_
 refine cZ (ntE (Nt.mk n.ins n.sv v27 n.ov n.ss (n.gs++[(An.mk (2*n.cnt) x25)]) n.os)::curE g a len cap::rowE 67 2 (.slice (some ⟨g26,0,none⟩) 1 1) 1 (mI [2*n.cnt,x25])::boxE b5 #[jI n.ins,n.sv,v27,n.ov] 28::boxE b1 #[jI n.ins,n.sv,v27,n.ov] 28::l) (fun w hm=>hm) ?_
 refine aZ 5 [4,3,2,0,1] A A (by decide) ?_
 refine cB 2 A ?_
 exact eG (rs:=[.cell 2 28]) (vs:=[.agg #[jI n.ins,n.sv,v27,n.ov]]) A ⟨⟨b1,0,[jI n.ins,n.sv,v27,n.ov],A,A,by kernel_rfl,by kernel_rfl,aD 3 A 0 A⟩,trivial⟩ A (fun w hm=>⟨_,bigE [curE g a len cap,ntE (Nt.mk n.ins n.sv v27 n.ov n.ss (n.gs++[(An.mk (2*n.cnt) x25)]) n.os)],A,⟨(Nt.mk n.ins n.sv v27 n.ov n.ss (n.gs++[(An.mk (2*n.cnt) x25)]) n.os),A,A,⟨hw1,hw2,hw3⟩,by first|exact hs9|exact⟨hs9.s1,hs9.a1,hs9.o1,hs9.x4,hs9.mx,hs9.mg,hs9.mo⟩|exact lG hs9 (by omega) (by omega)|exact lH hs9 (by omega) ⟨by dsimp only;omega,by dsimp only;omega⟩|exact lF hs9 (by omega)|exact⟨hs9.s1,hs9.a1,by dsimp only;omega,hs9.x4,hs9.mx,hs9.mg,hom⟩|exact⟨hs9.s1,by dsimp only;omega,hs9.o1,hs9.x4,hs9.mx,hgm,hs9.mo⟩⟩,hm.sub (.cons_cons _ (kE 3 A))⟩)
 refine aU 1 A (aS A (cF ?_))
 refine cM A A A A A A (fun h29=>?_) (fun h29=>?_)
 refine aU 1 A (aR A ?_)
 refine eE 7 [6,5,3,2,1,0,4] A A (by decide) ?_
 refine gG (l:=(bigE (n.ss.map sqPart)::rS9 46 3 n.sv n.ss sqC::rS9 67 2 n.av n.gs anC::rI9 3 n.ov n.os::nB9 b5 n::eB9 b1::l)) A 11 [0,1,2,3,4,5,6,7,8,9,10] (List.take 11 _) (List.drop 11 _) [[],[0],[],[2],[3],[],[],[3,5,6],[],[3,4,7,8],[3,7,8,9]] [39,40,41,42,43,44,45,46,47,48,49] (fun i_ vs_ v_ p_=>match i_ with|0=>v_=.pointer (some ⟨b5,0+1,none⟩)∧p_=[]|1=>v_=n.sv∧p_=[]|2=>v_=pI g∧p_=[]|3=>(∃pm_,p_=[pm_]∧(fun u_ p_=>(∃x_:Int,u_=jI x_∧0≤x_∧x_<4)∧p_=curE g a len cap) v_ pm_)|4=>v_=jI ((intOf_o (gV9 vs_ 0))-1)∧p_=[]|5=>v_=pI g∧p_=[]|6=>IsRow 3 1 5 (mI [-1,1,2,31,32]) v_ p_|7=>(∃pm_,p_=[pm_]∧(fun u_ p_=>(∃x:Int,u_=jI x∧x≤9223372036854775807)∧p_=curE g a len cap) v_ pm_)|8=>IsRow 3 1 1 (mI [0]) v_ p_|9=>v_=.agg #[jI ((intOf_o (gV9 vs_ 0))-1),jI (intOf_o (gV9 vs_ 2)),(gV9 vs_ 3)]∧p_=[]|10=>IsRow 46 3 1 ([jI ((intOf_o (gV9 vs_ 0))-1),jI (intOf_o (gV9 vs_ 1)),(gV9 vs_ 2)]) v_ p_|_=>True) [[],[0],[],[2],[],[],[],[5,6],[],[4,7,8],[7,8,9]] [none,none,none,some 14,none,none,none,some 3,none,none,none] [curE g a len cap] [0,1,2,4,5,6,7,8,9,10] 14 (List.take_append_drop 11 _).symm (by kernel_rfl) (by kernel_rfl) (by kernel_rfl) A A ?_ ?_
 refine⟨?_,?_,?_,?_,?_,?_,?_,?_,?_,?_,?_,trivial⟩
 intro vf pf hmu hR
 refine fG [] [] A (bH (aI [3] A) ?_)
 exact aT (cQ 1 A A A)
 intro vf pf hmu hR
 have e0:=hR 0 (by decide)
 refine fG [0] [0] A (aW (sk 39 (congrArg some e0.1) (aB _)) (List.sublist_append_right _ _) ?_)
 exact aT (aN A A A (aH 4 A A))
 intro vf pf hmu hR
 refine fG [] [] A (bH (aI [0] A) ?_)
 exact aT (aK A)
 intro vf pf hmu hR
 have e2:=hR 2 (by decide)
 refine Or.inl ⟨A,?_⟩
 show RunM _ _ _ (pf 14) (([2]:List Nat).flatMap pf++_) (envOf _ vf [2]++_) _ _
 rw[hmu]
 exact cV (sk 41 (congrArg some e2.1) (aB _)) (by simp only[e2.2,fS]<;>rfl) (eY (R:=(fun u_ p_=>(∃x_:Int,u_=jI x_∧0≤x_∧x_<4)∧p_=curE g a len cap)) A A (fun L w hX hm=>dW g a len cap z 4 _ _ _ hm hb (by constructor<;>omega)))
 intro vf pf hmu hR
 have e3:(∃pm_,(pf 3)=[pm_]∧(fun u_ p_=>(∃x_:Int,u_=jI x_∧0≤x_∧x_<4)∧p_=curE g a len cap) (vf 3) pm_):=hR 3 (by decide)
 obtain⟨p31,pE3,R32⟩:=e3
 obtain⟨v30,vE3⟩:∃x,vf 3=x:=⟨_,rfl⟩
 rw[vE3] at R32
 obtain⟨⟨x32,rfl,x320,x321⟩,rfl⟩:=R32
 refine fG [] [3] A (bH (sk 42 (congrArg some vE3) (aB _)) ?_)
 exact cD (aT (iM A A A)) (fun _ _ h=>⟨h.1.trans (by show _=(jI ((intOf_o (vf 3))-1):Value);first|(rw[vE3];done)|(rw[vE3];rfl)),h.2⟩)
 intro vf pf hmu hR
 refine fG [] [] A (bH (aI [0] A) ?_)
 exact aT (aK A)
 intro vf pf hmu hR
 refine fG [] [] A (aW (aB _) (List.sublist_append_right _ _) ?_)
 exact bB (z:=jI 0) (s:=1) (cs:=(mI [-1,1,2,31,32])) A Tryz.underlying26 A (by decide) A (by kernel_rfl) A
 intro vf pf hmu hR
 have e3:(∃pm_,(pf 3)=[pm_]∧(fun u_ p_=>(∃x_:Int,u_=jI x_∧0≤x_∧x_<4)∧p_=curE g a len cap) (vf 3) pm_):=hR 3 (by decide)
 obtain⟨p31,pE3,R32⟩:=e3
 obtain⟨v30,vE3⟩:∃x,vf 3=x:=⟨_,rfl⟩
 rw[vE3] at R32
 obtain⟨⟨x32,rfl,x320,x321⟩,rfl⟩:=R32
 have e5:=hR 5 (by decide)
 have e6:IsRow 3 1 5 (mI [-1,1,2,31,32]) (vf 6) (pf 6):=hR 6 (by decide)
 obtain⟨g33,vE6,pE6⟩:=e6
 refine Or.inl ⟨A,?_⟩
 show RunM _ _ _ (pf 3) (([5,6]:List Nat).flatMap pf++_) (envOf _ vf [3,5,6]++_) _ _
 rw[pE3]
 exact cV (sk 44 (congrArg some e5.1) (sk 45 (congrArg some vE6) (aB _))) (by simp only[pE6,vE6,e5.2,fS]<;>rfl) (eY (R:=(fun u_ p_=>(∃x:Int,u_=jI x∧x≤9223372036854775807)∧p_=curE g a len cap)) A A (fun L w hX hm=>(jC g a len cap z (.slice (some ⟨g33,0,none⟩) 5 5) ([-1,1,2,31,32]:List Int) _ _ _ hm hb (fun w hm=>Ff (hX w hm) 0 A) (by simp)).mono (tV (by decide))))
 intro vf pf hmu hR
 refine fG [] [] A (aW (aB _) (List.sublist_append_right _ _) ?_)
 exact bB (z:=jI 0) (s:=1) (cs:=(mI [0])) A Tryz.underlying26 A (by decide) A (by kernel_rfl) A
 intro vf pf hmu hR
 have e3:(∃pm_,(pf 3)=[pm_]∧(fun u_ p_=>(∃x_:Int,u_=jI x_∧0≤x_∧x_<4)∧p_=curE g a len cap) (vf 3) pm_):=hR 3 (by decide)
 obtain⟨p31,pE3,R32⟩:=e3
 obtain⟨v30,vE3⟩:∃x,vf 3=x:=⟨_,rfl⟩
 rw[vE3] at R32
 obtain⟨⟨x32,rfl,x320,x321⟩,rfl⟩:=R32
 have e4:(vf 4)=jI ((intOf_o (vf 3))-1)∧(pf 4)=[]:=hR 4 (by decide)
 rw[vE3] at e4
 have e7:(∃pm_,(pf 7)=[pm_]∧(fun u_ p_=>(∃x:Int,u_=jI x∧x≤9223372036854775807)∧p_=curE g a len cap) (vf 7) pm_):=hR 7 (by decide)
 obtain⟨p35,pE7,R36⟩:=e7
 obtain⟨v34,vE7⟩:∃x,vf 7=x:=⟨_,rfl⟩
 rw[vE7] at R36
 obtain⟨⟨x36,rfl,x36m⟩,rfl⟩:=R36
 have e8:IsRow 3 1 1 (mI [0]) (vf 8) (pf 8):=hR 8 (by decide)
 obtain⟨g37,vE8,pE8⟩:=e8
 refine fG [4,7,8] [3,4,7,8] A (bU (sk 43 (congrArg some e4.1) (sk 46 (congrArg some vE7) (sk 47 (congrArg some vE8) (aB _)))) (by simp only[pE7,vE7,pE8,vE8,e4.2,fS]<;>rfl) ?_)
 exact cD (aT (kR (cs:=#[jI (x32-1),jI x36,.slice (some ⟨g37,0,none⟩) 1 1]) A A (fun w hm=>rH (x32-1) x36 (.slice (some ⟨g37,0,none⟩) 1 1) A))) (fun _ _ h=>⟨h.1.trans (by show _=(.agg #[jI ((intOf_o (vf 3))-1),jI (intOf_o (vf 7)),(vf 8)]:Value);first|(rw[vE3,vE7,vE8];done)|(rw[vE3,vE7,vE8];rfl)),h.2⟩)
 intro vf pf hmu hR
 have e3:(∃pm_,(pf 3)=[pm_]∧(fun u_ p_=>(∃x_:Int,u_=jI x_∧0≤x_∧x_<4)∧p_=curE g a len cap) (vf 3) pm_):=hR 3 (by decide)
 obtain⟨p31,pE3,R32⟩:=e3
 obtain⟨v30,vE3⟩:∃x,vf 3=x:=⟨_,rfl⟩
 rw[vE3] at R32
 obtain⟨⟨x32,rfl,x320,x321⟩,rfl⟩:=R32
 have e7:(∃pm_,(pf 7)=[pm_]∧(fun u_ p_=>(∃x:Int,u_=jI x∧x≤9223372036854775807)∧p_=curE g a len cap) (vf 7) pm_):=hR 7 (by decide)
 obtain⟨p35,pE7,R36⟩:=e7
 obtain⟨v34,vE7⟩:∃x,vf 7=x:=⟨_,rfl⟩
 rw[vE7] at R36
 obtain⟨⟨x36,rfl,x36m⟩,rfl⟩:=R36
 have e8:IsRow 3 1 1 (mI [0]) (vf 8) (pf 8):=hR 8 (by decide)
 obtain⟨g37,vE8,pE8⟩:=e8
 have e9:(vf 9)=.agg #[jI ((intOf_o (vf 3))-1),jI (intOf_o (vf 7)),(vf 8)]∧(pf 9)=[]:=hR 9 (by decide)
 rw[vE3,vE7,vE8] at e9
 refine fG [7,8,9] [3,7,8,9] A (bU (sk 48 (congrArg some e9.1) (aB _)) (by simp only[pE7,vE7,pE8,vE8,e9.2,fS]<;>rfl) ?_)
 exact cD (bB (z:=.agg #[jI 0,jI 0,.slice none 0 0]) (s:=3) (cs:=[jI (x32-1),jI x36,.slice (some ⟨g37,0,none⟩) 1 1]) A Tryz.underlying24 A (by decide) A (by kernel_rfl) A) (fun v_ p_ h=>by show IsRow 46 3 1 ([jI ((intOf_o (vf 3))-1),jI (intOf_o (vf 7)),(vf 8)]) v_ p_;rw[vE3,vE7,vE8];exact h)
 intro vf pf hmu hR
 have e1:=hR 1 (by decide)
 have e3:(∃pm_,(pf 3)=[pm_]∧(fun u_ p_=>(∃x_:Int,u_=jI x_∧0≤x_∧x_<4)∧p_=curE g a len cap) (vf 3) pm_):=hR 3 (by decide)
 obtain⟨p31,pE3,R32⟩:=e3
 obtain⟨v30,vE3⟩:∃x,vf 3=x:=⟨_,rfl⟩
 rw[vE3] at R32
 obtain⟨⟨x32,rfl,x320,x321⟩,rfl⟩:=R32
 have e6:IsRow 3 1 5 (mI [-1,1,2,31,32]) (vf 6) (pf 6):=hR 6 (by decide)
 obtain⟨g33,vE6,pE6⟩:=e6
 have e7:(∃pm_,(pf 7)=[pm_]∧(fun u_ p_=>(∃x:Int,u_=jI x∧x≤9223372036854775807)∧p_=curE g a len cap) (vf 7) pm_):=hR 7 (by decide)
 obtain⟨p35,pE7,R36⟩:=e7
 obtain⟨v34,vE7⟩:∃x,vf 7=x:=⟨_,rfl⟩
 rw[vE7] at R36
 obtain⟨⟨x36,rfl,x36m⟩,rfl⟩:=R36
 have e8:IsRow 3 1 1 (mI [0]) (vf 8) (pf 8):=hR 8 (by decide)
 obtain⟨g37,vE8,pE8⟩:=e8
 have e10:IsRow 46 3 1 ([jI ((intOf_o (vf 3))-1),jI (intOf_o (vf 7)),(vf 8)]) (vf 10) (pf 10):=hR 10 (by decide)
 rw[vE3,vE7,vE8] at e10
 obtain⟨g38,vE10,pE10⟩:=e10
 have q0:=hR 0 (by decide)
 have q1:=hR 1 (by decide)
 have q2:=hR 2 (by decide)
 have q4:=hR 4 (by decide)
 have q5:=hR 5 (by decide)
 have q9:=hR 9 (by decide)
 refine cE (bO [37,24,14,8,7,3,2,0] _ (sk 40 (congrArg some e1.1) (sk 49 (congrArg some vE10) (aB _))) A) (by simp only[pE6,vE6,pE7,vE7,pE8,vE8,pE10,vE10,q0.2,q1.2,q2.2,q4.2,q5.2,q9.2,fS]<;>rfl) ?_
 simp only[List.drop_succ_cons,List.drop_zero]
 refine cW (i:=5) (z:=.agg #[jI 0,jI 0,.slice none 0 0]) (bytes:=40) A A A A Tryz.underlying24 (by kernel_rfl) A A A A (aG 3 A) (by simp[Value.oneCell']) (by first|omega|(simp only[List.length_append,List.length_cons,List.length_nil];omega)) (cH n.ss [(Sq.mk (x32-1) x36 (.slice (some ⟨g37,0,none⟩) 1 1) [0])]) (dY sqC n.ss (Sq.mk (x32-1) x36 (.slice (some ⟨g37,0,none⟩) 1 1) [0]) _ A) (fun _=>A) ?_
 intro v39
 refine aP A (cQ 1 A A A) (dZ (i:=5) A (fun ho40=>?_))
 refine fI (i:=8) (cs':=#[jI n.ins,v39,n.av,n.ov]) A A A A A A ho40 A A A A (dB (cK (cF (aP A (aF (cs:=[jI n.ins,v39,n.av,n.ov]) A A A A A (aD 8 A 0 A)) ?_))))
 refine bI (cs':=#[jI n.ins,v39,n.av,n.ov]) (i:=9) (off:=0) (us:=[jI n.ins,v39,n.av,n.ov]) A A A A A A A (aA A (aA ho40 (aA o2n (aA o3n bA)))) A A A (bR ?_)
 refine aV (cY (fun w hm=>(aG 5 A w hm).one) (fun hw1=>?_))
 refine cY (fun w hm=>(aG 6 A w hm).one) (fun hw2=>?_)
 refine cY (fun w hm=>(aG 7 A w hm).one) (fun hw3=>?_)
 refine aZ 10 [9,8,7,6,5,3,1,0,2,4] A A (by decide) ?_
 refine cZ (bigE ((n.ss++[(Sq.mk (x32-1) x36 (.slice (some ⟨g37,0,none⟩) 1 1) [0])]).map sqPart)::rowE 3 1 (.slice (some ⟨g33,0,none⟩) 5 5) 5 (mI [-1,1,2,31,32])::curE g a len cap::rowE 46 3 (.slice (some ⟨g38,0,none⟩) 1 1) 1 ([jI (x32-1),jI x36,.slice (some ⟨g37,0,none⟩) 1 1])::rowE 46 3 v39 ((n.ss++[(Sq.mk (x32-1) x36 (.slice (some ⟨g37,0,none⟩) 1 1) [0])]).length) ((n.ss++[(Sq.mk (x32-1) x36 (.slice (some ⟨g37,0,none⟩) 1 1) [0])]).flatMap sqC)::rS9 67 2 n.av n.gs anC::rI9 3 n.ov n.os::boxE b5 #[jI n.ins,v39,n.av,n.ov] 28::boxE b1 #[jI n.ins,v39,n.av,n.ov] 28::l) (fun w hm=>by rw[List.map_append];exact nD w hm) ?_
 refine aZ 9 [8,7,6,5,3,2,1,4,0] A A (by decide) ?_
 refine cB 2 A ?_
 refine aZ 8 [7,6,3,2,1,5,4,0] A A (by decide) ?_
 refine cB 3 A ?_
 refine cZ (ntE (Nt.mk n.ins v39 n.av n.ov (n.ss++[(Sq.mk (x32-1) x36 (.slice (some ⟨g37,0,none⟩) 1 1) [0])]) n.gs n.os)::rowE 3 1 (.slice (some ⟨g33,0,none⟩) 5 5) 5 (mI [-1,1,2,31,32])::curE g a len cap::rowE 46 3 (.slice (some ⟨g38,0,none⟩) 1 1) 1 ([jI (x32-1),jI x36,.slice (some ⟨g37,0,none⟩) 1 1])::boxE b5 #[jI n.ins,v39,n.av,n.ov] 28::boxE b1 #[jI n.ins,v39,n.av,n.ov] 28::l) (fun w hm=>hm) ?_
 refine aZ 6 [5,4,3,1,0,2] A A (by decide) ?_
 refine cB 2 A ?_
 exact eG (rs:=[.cell 2 28]) (vs:=[.agg #[jI n.ins,v39,n.av,n.ov]]) A ⟨⟨b1,0,[jI n.ins,v39,n.av,n.ov],A,A,by kernel_rfl,by kernel_rfl,aD 4 A 0 A⟩,trivial⟩ A (fun w hm=>⟨_,bigE [curE g a len cap,ntE (Nt.mk n.ins v39 n.av n.ov (n.ss++[(Sq.mk (x32-1) x36 (.slice (some ⟨g37,0,none⟩) 1 1) [0])]) n.gs n.os)],A,⟨(Nt.mk n.ins v39 n.av n.ov (n.ss++[(Sq.mk (x32-1) x36 (.slice (some ⟨g37,0,none⟩) 1 1) [0])]) n.gs n.os),A,A,⟨hw1,hw2,hw3⟩,by first|exact hs9|exact⟨hs9.s1,hs9.a1,hs9.o1,hs9.x4,hs9.mx,hs9.mg,hs9.mo⟩|exact lG hs9 (by omega) (by omega)|exact lH hs9 (by omega) ⟨by dsimp only;omega,by dsimp only;omega⟩|exact lF hs9 (by omega)|exact⟨hs9.s1,hs9.a1,by dsimp only;omega,hs9.x4,hs9.mx,hs9.mg,hom⟩|exact⟨hs9.s1,by dsimp only;omega,hs9.o1,hs9.x4,hs9.mx,hgm,hs9.mo⟩⟩,hm.sub (.cons_cons _ (kE 4 A))⟩)
 refine aU 1 A (aS A (cF ?_))
 refine cM A A A A A A (fun h41=>?_) (fun h41=>?_)
 refine aU 1 A (aR A (bE ?_))
 refine gT (α:=List Int) (β:=Value) [0,2,3,7,8,14,24,37,52] A (fun os2 ov2=>(bigE (n.ss.map sqPart)::rS9 46 3 n.sv n.ss sqC::rS9 67 2 n.av n.gs anC::rI9 3 ov2 os2::curE g a len cap::boxE b5 #[jI n.ins,n.sv,n.av,ov2] 28::eB9 b1::l)) (fun os2 ov2=>[]) (fun os2 ov2=>os2.length≤20∧∀x∈os2,x≤9223372036854775807) (fun os2 ov2=>30-os2.length) n.os n.ov ⟨by omega,hs9.mo⟩ (cT A) (.refl _) ?_
 intro os2 ov2 hi42
 obtain⟨hol,hom⟩:=hi42
 refine aC (aC ?_)
 refine eE 7 [6,5,3,2,1,0,4] A A (by decide) ?_
 refine gG (l:=(bigE (n.ss.map sqPart)::rS9 46 3 n.sv n.ss sqC::rS9 67 2 n.av n.gs anC::rI9 3 ov2 os2::boxE b5 #[jI n.ins,n.sv,n.av,ov2] 28::eB9 b1::l)) A 7 [0,1,2,3,4,5,6] (List.take 7 _) (List.drop 7 _) [[],[0],[1],[],[3],[4],[2,4,5]] [54,55,56,57,58,59,60] (fun i_ vs_ v_ p_=>match i_ with|0=>v_=.pointer (some ⟨b5,0+3,none⟩)∧p_=[]|1=>v_=ov2∧p_=[]|2=>v_=jI (os2.length:Int)∧p_=[]|3=>v_=pI g∧p_=[]|4=>(∃pm_,p_=[pm_]∧(fun u_ p_=>(∃x_:Int,u_=jI x_∧0≤x_∧x_<2)∧p_=curE g a len cap) v_ pm_)|5=>v_=jI (16+(intOf_o (gV9 vs_ 0)))∧p_=[]|6=>v_=.bool (decide ((os2.length:Int)<16+(intOf_o (gV9 vs_ 1))))∧p_=[]|_=>True) [[],[0],[1],[],[3],[4],[2,4,5]] [none,none,none,none,some 7,none,none] [curE g a len cap] [0,1,2,3,4,5,6] 7 (List.take_append_drop 7 _).symm (by kernel_rfl) (by kernel_rfl) (by kernel_rfl) A A ?_ ?_
 refine⟨?_,?_,?_,?_,?_,?_,?_,trivial⟩
 intro vf pf hmu hR
 refine fG [] [] A (bH (aI [3] A) ?_)
 exact aT (cQ 3 A A A)
 intro vf pf hmu hR
 have e0:=hR 0 (by decide)
 refine fG [0] [0] A (aW (sk 54 (congrArg some e0.1) (aB _)) (List.sublist_append_right _ _) ?_)
 exact aT (aN A A A (aH 4 A A))
 intro vf pf hmu hR
 have e1:=hR 1 (by decide)
 refine fG [1] [1] A (aW (sk 55 (congrArg some e1.1) (aB _)) (List.sublist_append_right _ _) ?_)
 exact aT (bC A Tryz.underlying26 A (aG 3 A))
 intro vf pf hmu hR
 refine fG [] [] A (bH (aI [0] A) ?_)
 exact aT (aK A)
 intro vf pf hmu hR
 have e3:=hR 3 (by decide)
 refine Or.inl ⟨A,?_⟩
 show RunM _ _ _ (pf 7) (([3]:List Nat).flatMap pf++_) (envOf _ vf [3]++_) _ _
 rw[hmu]
 exact cV (sk 57 (congrArg some e3.1) (aB _)) (by simp only[e3.2,fS]<;>rfl) (eY (R:=(fun u_ p_=>(∃x_:Int,u_=jI x_∧0≤x_∧x_<2)∧p_=curE g a len cap)) A A (fun L w hX hm=>dW g a len cap z 2 _ _ _ hm hb (by constructor<;>omega)))
 intro vf pf hmu hR
 have e4:(∃pm_,(pf 4)=[pm_]∧(fun u_ p_=>(∃x_:Int,u_=jI x_∧0≤x_∧x_<2)∧p_=curE g a len cap) (vf 4) pm_):=hR 4 (by decide)
 obtain⟨p44,pE4,R45⟩:=e4
 obtain⟨v43,vE4⟩:∃x,vf 4=x:=⟨_,rfl⟩
 rw[vE4] at R45
 obtain⟨⟨x45,rfl,x450,x451⟩,rfl⟩:=R45
 refine fG [4] [4] A (bU (sk 58 (congrArg some vE4) (aB _)) (by simp only[pE4,vE4,fS]<;>rfl) ?_)
 exact cD (aT (dM A A A)) (fun _ _ h=>⟨h.1.trans (by show _=(jI (16+(intOf_o (vf 4))):Value);first|(rw[vE4];done)|(rw[vE4];rfl)),h.2⟩)
 intro vf pf hmu hR
 have e2:=hR 2 (by decide)
 have e4:(∃pm_,(pf 4)=[pm_]∧(fun u_ p_=>(∃x_:Int,u_=jI x_∧0≤x_∧x_<2)∧p_=curE g a len cap) (vf 4) pm_):=hR 4 (by decide)
 obtain⟨p44,pE4,R45⟩:=e4
 obtain⟨v43,vE4⟩:∃x,vf 4=x:=⟨_,rfl⟩
 rw[vE4] at R45
 obtain⟨⟨x45,rfl,x450,x451⟩,rfl⟩:=R45
 have e5:(vf 5)=jI (16+(intOf_o (vf 4)))∧(pf 5)=[]:=hR 5 (by decide)
 rw[vE4] at e5
 refine fG [2,4,5] [2,4,5] A (bU (sk 56 (congrArg some e2.1) (sk 59 (congrArg some e5.1) (aB _))) (by simp only[pE4,vE4,e2.2,e5.2,fS]<;>rfl) ?_)
 exact cD (aT (dC A A A A)) (fun _ _ h=>⟨h.1.trans (by show _=(.bool (decide ((os2.length:Int)<16+(intOf_o (vf 4)))):Value);first|(rw[vE4];done)|(rw[vE4];rfl)),h.2⟩)
 intro vf pf hmu hR
 have e4:(∃pm_,(pf 4)=[pm_]∧(fun u_ p_=>(∃x_:Int,u_=jI x_∧0≤x_∧x_<2)∧p_=curE g a len cap) (vf 4) pm_):=hR 4 (by decide)
 obtain⟨p44,pE4,R45⟩:=e4
 obtain⟨v43,vE4⟩:∃x,vf 4=x:=⟨_,rfl⟩
 rw[vE4] at R45
 obtain⟨⟨x45,rfl,x450,x451⟩,rfl⟩:=R45
 have e6:(vf 6)=.bool (decide ((os2.length:Int)<16+(intOf_o (vf 4))))∧(pf 6)=[]:=hR 6 (by decide)
 rw[vE4] at e6
 have q0:=hR 0 (by decide)
 have q1:=hR 1 (by decide)
 have q2:=hR 2 (by decide)
 have q3:=hR 3 (by decide)
 have q5:=hR 5 (by decide)
 have q6:=hR 6 (by decide)
 refine cE (bO [52,37,24,14,8,7,3,2,0] _ (sk 60 (congrArg some e6.1) (aB _)) A) (by simp only[pE4,vE4,q0.2,q1.2,q2.2,q3.2,q5.2,q6.2,fS]<;>rfl) ?_
 simp only[List.drop_succ_cons,List.drop_zero]
 refine bR ?_
 refine fU A (fun h46=>?_) (fun h46=>?_)
 have h46q:((os2.length:Int)<16+x45):=of_decide_eq_true h46
 refine bY (bE (bJ (aP A (cQ 3 A A A) (aP A (aN A A A (aH 5 A A)) ?_))))
 refine dP A (bB (z:=jI 0) (s:=1) (cs:=(mI [1])) A Tryz.underlying26 A (by decide) A (by kernel_rfl) A) ?_
 intro g47
 refine cW (i:=5) (z:=jI 0) (bytes:=8) A A A A Tryz.underlying26 (by kernel_rfl) A A A A (aG 0 A) (cO _) (by first|omega|(simp;done)|(simp;omega)) (cH os2 ([1])) (dL os2 ([1])) (fun _=>A) ?_
 intro v48
 refine aP A (cQ 3 A A A) (dZ (i:=5) A (fun ho49=>?_))
 refine fI (i:=6) (cs':=#[jI n.ins,n.sv,n.av,v48]) A A A A A A ho49 A A A A (dB (cX ?_))
 refine aZ 8 [7,6,1,5,4,3,2] A A (by decide) ?_
 exact cG (os2++([1])) v48 ⟨by rw[List.length_append,List.length_singleton];omega,mo_app hom (by omega)⟩ (by rw[List.length_append,List.length_singleton];omega) (cT rfl) (.refl _)
 have h46q:¬((os2.length:Int)<16+x45):=of_decide_eq_false h46
 refine bM (dI ?_)
 refine aO (cK (cF (aP A (aF (cs:=[jI n.ins,n.sv,n.av,ov2]) A A A A A (aD 5 A 0 A)) ?_)))
 refine dZ (i:=4) A (fun ho50=>?_)
 refine bI (cs':=#[jI n.ins,n.sv,n.av,ov2]) (i:=6) (off:=0) (us:=[jI n.ins,n.sv,n.av,ov2]) A A A A A A A (aA A (aA o1n (aA o2n (aA ho50 bA)))) A A A (bR ?_)
 refine aV (cY (fun w hm=>(aG 2 A w hm).one) (fun hw1=>?_))
 refine cY (fun w hm=>(aG 3 A w hm).one) (fun hw2=>?_)
 refine cY (fun w hm=>(aG 4 A w hm).one) (fun hw3=>?_)
 refine aZ 7 [6,5,4,3,0,2,1] A A (by decide) ?_
 refine cB 2 A ?_
 refine aZ 6 [5,4,1,3,2,0] A A (by decide) ?_
 refine cB 3 A ?_
 refine cZ (ntE (Nt.mk n.ins n.sv n.av ov2 n.ss n.gs os2)::curE g a len cap::boxE b5 #[jI n.ins,n.sv,n.av,ov2] 28::boxE b1 #[jI n.ins,n.sv,n.av,ov2] 28::l) (fun w hm=>hm) ?_
 refine aZ 4 [3,2,0,1] A A (by decide) ?_
 refine cB 2 A ?_
 exact eG (rs:=[.cell 2 28]) (vs:=[.agg #[jI n.ins,n.sv,n.av,ov2]]) A ⟨⟨b1,0,[jI n.ins,n.sv,n.av,ov2],A,A,by kernel_rfl,by kernel_rfl,aD 2 A 0 A⟩,trivial⟩ A (fun w hm=>⟨_,bigE [curE g a len cap,ntE (Nt.mk n.ins n.sv n.av ov2 n.ss n.gs os2)],A,⟨(Nt.mk n.ins n.sv n.av ov2 n.ss n.gs os2),A,A,⟨hw1,hw2,hw3⟩,by first|exact hs9|exact⟨hs9.s1,hs9.a1,hs9.o1,hs9.x4,hs9.mx,hs9.mg,hs9.mo⟩|exact lG hs9 (by omega) (by omega)|exact lH hs9 (by omega) ⟨by dsimp only;omega,by dsimp only;omega⟩|exact lF hs9 (by omega)|exact⟨hs9.s1,hs9.a1,by dsimp only;omega,hs9.x4,hs9.mx,hs9.mg,hom⟩|exact⟨hs9.s1,by dsimp only;omega,hs9.o1,hs9.x4,hs9.mx,hgm,hs9.mo⟩⟩,hm.sub (.cons_cons _ (kE 2 A))⟩)
 refine aU 1 A (aS A (cF ?_))
 refine cM A A A A A A (fun h51=>?_) (fun h51=>?_)
 refine aU 1 A (aR A (aC (bZ 1 A ?_)))
 refine eH (R:=(fun u_ p_=>(∃b:Bool,u_=.bool b)∧p_=curE g a len cap)) 4 A A A A A (fun l' w hm=>qQ hm hb (6) (by omega) (by omega)) ?_
 intro v52 p53 R54
 obtain⟨⟨x54,rfl⟩,rfl⟩:=R54
 refine eC (l':=(bigE (n.ss.map sqPart)::rS9 46 3 n.sv n.ss sqC::rS9 67 2 n.av n.gs anC::rI9 3 n.ov n.os::curE g a len cap::nB9 b5 n::eB9 b1::l)) A ?_
 refine bW (fun h55=>?_) (fun h55=>?_)
 refine bR (aR A (bE ?_))
 refine gT (α:=List An) (β:=Value) [0,2,3,7,8,14,24,37,52,66,69] A (fun gs2 av2=>(bigE (n.ss.map sqPart)::rS9 46 3 n.sv n.ss sqC::rS9 67 2 av2 gs2 anC::rI9 3 n.ov n.os::curE g a len cap::boxE b5 #[jI n.ins,n.sv,av2,n.ov] 28::eB9 b1::l)) (fun gs2 av2=>[]) (fun gs2 av2=>gs2.length≤302∧∀k,k<gs2.length→(gs2.getD k an0).a≤9223372036854775807∧(gs2.getD k an0).b≤9223372036854775807) (fun gs2 av2=>400-gs2.length) n.gs n.av ⟨by omega,hs9.mg⟩ (cT A) (.refl _) ?_
 intro gs2 av2 hi56
 obtain⟨hgl,hgm⟩:=hi56
 refine aC (aC ?_)
 refine eE 7 [6,5,3,2,1,0,4] A A (by decide) ?_
 refine gG (l:=(bigE (n.ss.map sqPart)::rS9 46 3 n.sv n.ss sqC::rS9 67 2 av2 gs2 anC::rI9 3 n.ov n.os::boxE b5 #[jI n.ins,n.sv,av2,n.ov] 28::eB9 b1::l)) A 7 [0,1,2,3,4,5,6] (List.take 7 _) (List.drop 7 _) [[],[0],[1],[],[3],[4],[2,4,5]] [70,71,72,73,74,75,76] (fun i_ vs_ v_ p_=>match i_ with|0=>v_=.pointer (some ⟨b5,0+2,none⟩)∧p_=[]|1=>v_=av2∧p_=[]|2=>v_=jI (gs2.length:Int)∧p_=[]|3=>v_=pI g∧p_=[]|4=>(∃pm_,p_=[pm_]∧(fun u_ p_=>(∃x_:Int,u_=jI x_∧0≤x_∧x_<2)∧p_=curE g a len cap) v_ pm_)|5=>v_=jI (300+(intOf_o (gV9 vs_ 0)))∧p_=[]|6=>v_=.bool (decide ((gs2.length:Int)<300+(intOf_o (gV9 vs_ 1))))∧p_=[]|_=>True) [[],[0],[1],[],[3],[4],[2,4,5]] [none,none,none,none,some 7,none,none] [curE g a len cap] [0,1,2,3,4,5,6] 7 (List.take_append_drop 7 _).symm (by kernel_rfl) (by kernel_rfl) (by kernel_rfl) A A ?_ ?_
 refine⟨?_,?_,?_,?_,?_,?_,?_,trivial⟩
 intro vf pf hmu hR
 refine fG [] [] A (bH (aI [3] A) ?_)
 exact aT (cQ 2 A A A)
 intro vf pf hmu hR
 have e0:=hR 0 (by decide)
 refine fG [0] [0] A (aW (sk 70 (congrArg some e0.1) (aB _)) (List.sublist_append_right _ _) ?_)
 exact aT (aN A A A (aH 4 A A))
 intro vf pf hmu hR
 have e1:=hR 1 (by decide)
 refine fG [1] [1] A (aW (sk 71 (congrArg some e1.1) (aB _)) (List.sublist_append_right _ _) ?_)
 exact aT (bC A Tryz.underlying25 A (aG 2 A))
 intro vf pf hmu hR
 refine fG [] [] A (bH (aI [0] A) ?_)
 exact aT (aK A)
 intro vf pf hmu hR
 have e3:=hR 3 (by decide)
 refine Or.inl ⟨A,?_⟩
 show RunM _ _ _ (pf 7) (([3]:List Nat).flatMap pf++_) (envOf _ vf [3]++_) _ _
 rw[hmu]
 exact cV (sk 73 (congrArg some e3.1) (aB _)) (by simp only[e3.2,fS]<;>rfl) (eY (R:=(fun u_ p_=>(∃x_:Int,u_=jI x_∧0≤x_∧x_<2)∧p_=curE g a len cap)) A A (fun L w hX hm=>dW g a len cap z 2 _ _ _ hm hb (by constructor<;>omega)))
 intro vf pf hmu hR
 have e4:(∃pm_,(pf 4)=[pm_]∧(fun u_ p_=>(∃x_:Int,u_=jI x_∧0≤x_∧x_<2)∧p_=curE g a len cap) (vf 4) pm_):=hR 4 (by decide)
 obtain⟨p58,pE4,R59⟩:=e4
 obtain⟨v57,vE4⟩:∃x,vf 4=x:=⟨_,rfl⟩
 rw[vE4] at R59
 obtain⟨⟨x59,rfl,x590,x591⟩,rfl⟩:=R59
 refine fG [4] [4] A (bU (sk 74 (congrArg some vE4) (aB _)) (by simp only[pE4,vE4,fS]<;>rfl) ?_)
 exact cD (aT (dM A A A)) (fun _ _ h=>⟨h.1.trans (by show _=(jI (300+(intOf_o (vf 4))):Value);first|(rw[vE4];done)|(rw[vE4];rfl)),h.2⟩)
 intro vf pf hmu hR
 have e2:=hR 2 (by decide)
 have e4:(∃pm_,(pf 4)=[pm_]∧(fun u_ p_=>(∃x_:Int,u_=jI x_∧0≤x_∧x_<2)∧p_=curE g a len cap) (vf 4) pm_):=hR 4 (by decide)
 obtain⟨p58,pE4,R59⟩:=e4
 obtain⟨v57,vE4⟩:∃x,vf 4=x:=⟨_,rfl⟩
 rw[vE4] at R59
 obtain⟨⟨x59,rfl,x590,x591⟩,rfl⟩:=R59
 have e5:(vf 5)=jI (300+(intOf_o (vf 4)))∧(pf 5)=[]:=hR 5 (by decide)
 rw[vE4] at e5
 refine fG [2,4,5] [2,4,5] A (bU (sk 72 (congrArg some e2.1) (sk 75 (congrArg some e5.1) (aB _))) (by simp only[pE4,vE4,e2.2,e5.2,fS]<;>rfl) ?_)
 exact cD (aT (dC A A A A)) (fun _ _ h=>⟨h.1.trans (by show _=(.bool (decide ((gs2.length:Int)<300+(intOf_o (vf 4)))):Value);first|(rw[vE4];done)|(rw[vE4];rfl)),h.2⟩)
 intro vf pf hmu hR
 have e4:(∃pm_,(pf 4)=[pm_]∧(fun u_ p_=>(∃x_:Int,u_=jI x_∧0≤x_∧x_<2)∧p_=curE g a len cap) (vf 4) pm_):=hR 4 (by decide)
 obtain⟨p58,pE4,R59⟩:=e4
 obtain⟨v57,vE4⟩:∃x,vf 4=x:=⟨_,rfl⟩
 rw[vE4] at R59
 obtain⟨⟨x59,rfl,x590,x591⟩,rfl⟩:=R59
 have e6:(vf 6)=.bool (decide ((gs2.length:Int)<300+(intOf_o (vf 4))))∧(pf 6)=[]:=hR 6 (by decide)
 rw[vE4] at e6
 have q0:=hR 0 (by decide)
 have q1:=hR 1 (by decide)
 have q2:=hR 2 (by decide)
 have q3:=hR 3 (by decide)
 have q5:=hR 5 (by decide)
 have q6:=hR 6 (by decide)
 refine cE (bO [69,66,52,37,24,14,8,7,3,2,0] _ (sk 76 (congrArg some e6.1) (aB _)) A) (by simp only[pE4,vE4,q0.2,q1.2,q2.2,q3.2,q5.2,q6.2,fS]<;>rfl) ?_
 simp only[List.drop_succ_cons,List.drop_zero]
 refine bR ?_
 refine fU A (fun h60=>?_) (fun h60=>?_)
 have h60q:((gs2.length:Int)<300+x59):=of_decide_eq_true h60
 refine bY (bE (bJ (aP A (cQ 2 A A A) (aP A (aN A A A (aH 5 A A)) (aP A (dQ (cs:=#[jI 2,jI 1]) A A A) ?_)))))
 refine dP A (bB (z:=.agg #[jI 0,jI 0]) (s:=2) (cs:=(mI [2,1])) A Tryz.underlying25 A (by decide) A (by kernel_rfl) A) ?_
 intro g61
 refine cW (i:=4) (z:=.agg #[jI 0,jI 0]) (bytes:=16) A A A A Tryz.underlying25 (by kernel_rfl) A A A A (aG 0 A) (cO _) (by first|omega|(simp only[List.length_append,List.length_cons,List.length_nil];omega)) (cH gs2 [(An.mk 2 1)]) (dY anC gs2 (An.mk 2 1) _ A) (fun _=>A) ?_
 intro v62
 refine aP A (cQ 2 A A A) (dZ (i:=4) A (fun ho63=>?_))
 refine fI (i:=6) (cs':=#[jI n.ins,n.sv,v62,n.ov]) A A A A A A ho63 A A A A (dB (cX ?_))
 refine aZ 8 [7,6,1,5,4,3,2] A A (by decide) ?_
 exact cG (gs2++[(An.mk 2 1)]) v62 ⟨by rw[List.length_append,List.length_singleton];omega,Dp hgm ⟨by dsimp only;omega,by dsimp only;omega⟩⟩ (by rw[List.length_append,List.length_singleton];omega) (cT rfl) (.refl _)
 have h60q:¬((gs2.length:Int)<300+x59):=of_decide_eq_false h60
 refine bM (dI ?_)
 refine aO (cK (cF (aP A (aF (cs:=[jI n.ins,n.sv,av2,n.ov]) A A A A A (aD 5 A 0 A)) ?_)))
 refine dZ (i:=3) A (fun ho64=>?_)
 refine bI (cs':=#[jI n.ins,n.sv,av2,n.ov]) (i:=6) (off:=0) (us:=[jI n.ins,n.sv,av2,n.ov]) A A A A A A A (aA A (aA o1n (aA ho64 (aA o3n bA)))) A A A (bR ?_)
 refine aV (cY (fun w hm=>(aG 2 A w hm).one) (fun hw1=>?_))
 refine cY (fun w hm=>(aG 3 A w hm).one) (fun hw2=>?_)
 refine cY (fun w hm=>(aG 4 A w hm).one) (fun hw3=>?_)
 refine aZ 7 [6,5,4,3,0,2,1] A A (by decide) ?_
 refine cB 2 A ?_
 refine aZ 6 [5,4,1,3,2,0] A A (by decide) ?_
 refine cB 3 A ?_
 refine cZ (ntE (Nt.mk n.ins n.sv av2 n.ov n.ss gs2 n.os)::curE g a len cap::boxE b5 #[jI n.ins,n.sv,av2,n.ov] 28::boxE b1 #[jI n.ins,n.sv,av2,n.ov] 28::l) (fun w hm=>hm) ?_
 refine aZ 4 [3,2,0,1] A A (by decide) ?_
 refine cB 2 A ?_
 exact eG (rs:=[.cell 2 28]) (vs:=[.agg #[jI n.ins,n.sv,av2,n.ov]]) A ⟨⟨b1,0,[jI n.ins,n.sv,av2,n.ov],A,A,by kernel_rfl,by kernel_rfl,aD 2 A 0 A⟩,trivial⟩ A (fun w hm=>⟨_,bigE [curE g a len cap,ntE (Nt.mk n.ins n.sv av2 n.ov n.ss gs2 n.os)],A,⟨(Nt.mk n.ins n.sv av2 n.ov n.ss gs2 n.os),A,A,⟨hw1,hw2,hw3⟩,by first|exact hs9|exact⟨hs9.s1,hs9.a1,hs9.o1,hs9.x4,hs9.mx,hs9.mg,hs9.mo⟩|exact lG hs9 (by omega) (by omega)|exact lH hs9 (by omega) ⟨by dsimp only;omega,by dsimp only;omega⟩|exact lF hs9 (by omega)|exact⟨hs9.s1,hs9.a1,by dsimp only;omega,hs9.x4,hs9.mx,hs9.mg,hom⟩|exact⟨hs9.s1,by dsimp only;omega,hs9.o1,hs9.x4,hs9.mx,hgm,hs9.mo⟩⟩,hm.sub (.cons_cons _ (kE 2 A))⟩)
 refine bR (hH A (cK (cF (aP A (aF (cs:=[jI n.ins,n.sv,n.av,n.ov]) A A A A A (aD 5 A 0 A)) ?_))))
 refine bI (cs':=#[jI n.ins,n.sv,n.av,n.ov]) (i:=6) (off:=0) (us:=[jI n.ins,n.sv,n.av,n.ov]) A A A A A A A (aA A (aA o1n (aA o2n (aA o3n bA)))) A A A (bR ?_)
 refine aV (cY (fun w hm=>(aG 1 A w hm).one) (fun hw1=>?_))
 refine cY (fun w hm=>(aG 2 A w hm).one) (fun hw2=>?_)
 refine cY (fun w hm=>(aG 3 A w hm).one) (fun hw3=>?_)
 refine aZ 7 [6,5,4,3,2,1,0] A A (by decide) ?_
 refine cB 2 A ?_
 refine aZ 6 [5,4,3,2,1,0] A A (by decide) ?_
 refine cB 3 A ?_
 refine cZ (ntE (Nt.mk n.ins n.sv n.av n.ov n.ss n.gs n.os)::curE g a len cap::nB9 b5 n::nB9 b1 n::l) (fun w hm=>hm) ?_
 refine aZ 4 [3,2,0,1] A A (by decide) ?_
 refine cB 2 A ?_
 exact eG (rs:=[.cell 2 28]) (vs:=[.agg #[jI n.ins,n.sv,n.av,n.ov]]) A ⟨⟨b1,0,[jI n.ins,n.sv,n.av,n.ov],A,A,by kernel_rfl,by kernel_rfl,aD 2 A 0 A⟩,trivial⟩ A (fun w hm=>⟨_,bigE [curE g a len cap,ntE (Nt.mk n.ins n.sv n.av n.ov n.ss n.gs n.os)],A,⟨(Nt.mk n.ins n.sv n.av n.ov n.ss n.gs n.os),A,A,⟨hw1,hw2,hw3⟩,by first|exact hs9|exact⟨hs9.s1,hs9.a1,hs9.o1,hs9.x4,hs9.mx,hs9.mg,hs9.mo⟩|exact lG hs9 (by omega) (by omega)|exact lH hs9 (by omega) ⟨by dsimp only;omega,by dsimp only;omega⟩|exact lF hs9 (by omega)|exact⟨hs9.s1,hs9.a1,by dsimp only;omega,hs9.x4,hs9.mx,hs9.mg,hom⟩|exact⟨hs9.s1,by dsimp only;omega,hs9.o1,hs9.x4,hs9.mx,hgm,hs9.mo⟩⟩,hm.sub (.cons_cons _ (kE 2 A))⟩)
 refine aU 1 A (hH A (cK (cF (aP A (aF (cs:=[jI n.ins,n.sv,n.av,n.ov]) A A A A A (aD 5 A 0 A)) ?_))))
 refine bI (cs':=#[jI n.ins,n.sv,n.av,n.ov]) (i:=6) (off:=0) (us:=[jI n.ins,n.sv,n.av,n.ov]) A A A A A A A (aA A (aA o1n (aA o2n (aA o3n bA)))) A A A (bR ?_)
 refine aV (cY (fun w hm=>(aG 1 A w hm).one) (fun hw1=>?_))
 refine cY (fun w hm=>(aG 2 A w hm).one) (fun hw2=>?_)
 refine cY (fun w hm=>(aG 3 A w hm).one) (fun hw3=>?_)
 refine aZ 7 [6,5,4,3,2,1,0] A A (by decide) ?_
 refine cB 2 A ?_
 refine aZ 6 [5,4,3,2,1,0] A A (by decide) ?_
 refine cB 3 A ?_
 refine cZ (ntE (Nt.mk n.ins n.sv n.av n.ov n.ss n.gs n.os)::curE g a len cap::nB9 b5 n::nB9 b1 n::l) (fun w hm=>hm) ?_
 refine aZ 4 [3,2,0,1] A A (by decide) ?_
 refine cB 2 A ?_
 exact eG (rs:=[.cell 2 28]) (vs:=[.agg #[jI n.ins,n.sv,n.av,n.ov]]) A ⟨⟨b1,0,[jI n.ins,n.sv,n.av,n.ov],A,A,by kernel_rfl,by kernel_rfl,aD 2 A 0 A⟩,trivial⟩ A (fun w hm=>⟨_,bigE [curE g a len cap,ntE (Nt.mk n.ins n.sv n.av n.ov n.ss n.gs n.os)],A,⟨(Nt.mk n.ins n.sv n.av n.ov n.ss n.gs n.os),A,A,⟨hw1,hw2,hw3⟩,by first|exact hs9|exact⟨hs9.s1,hs9.a1,hs9.o1,hs9.x4,hs9.mx,hs9.mg,hs9.mo⟩|exact lG hs9 (by omega) (by omega)|exact lH hs9 (by omega) ⟨by dsimp only;omega,by dsimp only;omega⟩|exact lF hs9 (by omega)|exact⟨hs9.s1,hs9.a1,by dsimp only;omega,hs9.x4,hs9.mx,hs9.mg,hom⟩|exact⟨hs9.s1,by dsimp only;omega,hs9.o1,hs9.x4,hs9.mx,hgm,hs9.mo⟩⟩,hm.sub (.cons_cons _ (kE 2 A))⟩)
theorem tB {n:Nt}(hn:NtOk n) {node:Int}(h0:0≤node) {cut:List Int}(h:CutP n node cut) (hb:hasB cut node=false) {k:Nat}(hk:k<cut.length):0≤cut.getD k 0∧cut.getD k 0<node:=by
  have h1:=h.rng hn h0 hk
  have hne:cut.getD k 0≠node:=fun e=>by rw[wP hk e] at hb;cases hb
  omega
def flX (x:Int) (b:Bool):Int:=if b=true then xr x else x
theorem uN {x m:Int}{b:Bool}(h:LtOk x m):LtOk (flX x b) m:=by unfold flX;split;exact iZ h;exact h
theorem oC {x:Int}{b:Bool}(h0:0≤x) (h1:x<4294967296):bits .xor .i64 x (if b=true then (1:Int) else 0)=flX x b:=by
  unfold flX
  cases b
  · rw [if_neg (by decide), if_neg (by decide)]
    have:=Bit.xor_int x 0 h0 (by omega) (by omega) (by omega)
    rw[this];simp;omega
  · rw[if_pos rfl,if_pos rfl];exact iB h0 h1
end Go.Proofs.YthmbefiklpoghaaGreat
