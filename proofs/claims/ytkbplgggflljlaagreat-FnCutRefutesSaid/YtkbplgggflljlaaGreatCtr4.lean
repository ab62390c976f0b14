/- Texts of the law FnCutRefutes, part 4: what it uses. -/
import Derived.Test.YtkbplgggflljlaaGreatCtr3
set_option linter.unusedVariables false
set_option linter.unusedSimpArgs false
set_option maxHeartbeats 4000000
set_option maxRecDepth 100000
namespace Go.Proofs.YtkbplgggflljlaaGreat
open Go.RowKit Go.ChangeShapes
open Go.RowKit
open Go.Maps
open List (drop_succ_cons drop_zero getD_eq_getElem?_getD length_append length_cons length_drop length_map length_replicate length_set length_singleton length_take map_append map_cons map_nil mem_cons_of_mem mem_cons_self mem_range mem_singleton nil_append replicate sublist_append_right take_append_drop take_length)
open Bool (and_eq_true eq_false_or_eq_true)
theorem Dk (n:Nt) (rs:List CRow) (v:Value) (w:World) (hr:RdsNt w n) (hn:NtOk n) (hv:RdsCl w v rs) (bg:∀r∈rs,r.xs.length≤400) (cv:n.gs.length≤100) :
   Calls Tryz.prog 110 #[.agg #[.int .i64 n.ins,n.sv,n.av,n.ov],v] w (Ret w (fun u_ J=>∃(ps:List HP) (m:Ln) (b:Bool),u_=.tuple #[m.agg,.bool b]∧J=[bigE ps]∧(∀w,(bigE ps).holds w→RdsLn w m)∧(m.sv.oneCell'=true∧m.lv.oneCell'=true∧m.ov.oneCell'=true)∧LnOk m)):=by
 have et:=hn.i0
 have eu:=hn.i1
 have ew:=hn.s1
 have ex:=hn.a1
 have bu:=hn.o1
 have el:n.cnt=1+n.ins+n.ss.length+n.gs.length:=rfl
 have em:n.fst=1+n.ins+n.ss.length:=rfl
 have ey:=oK hn n.ss.length (Nat.le_refl _)
 refine aY (N:=259) (args:=[.agg #[jI n.ins,n.sv,n.av,n.ov],v]) Tryz.func110 A A (dW ?_)
 refine cU A (cE A A) ?_
 intro b1
 refine cU A (bY (z:=.agg #[jI 0,.slice none 0 0,.slice none 0 0,.slice none 0 0]) A A) ?_
 intro b2
 refine bG 1 A (kE (aN A (aP (cs:=[jI n.ins,n.sv,n.av,n.ov]) A A A A A (aM 1 A 0 A)) (aS 1 A ?_)))
 refine cM A (aF A A (fun w hm=>aI (wG n rs _ w (hr.below hm.bel) hn (hv.below hm.bel) bg))) (bD (fun h3=>?_) (fun h3=>?_))
 have an:=Hr h3
 have en:=an.len
 refine bG 1 A (aV A (eC (dW (aN A (aP (cs:=[jI n.ins,n.sv,n.av,n.ov]) A A A A A (aM 1 A 0 A)) ?_))))
 refine cM A (aF A A (fun w hm=>aI (dK n w (hr.below hm.bel) hn))) (bG 1 A (dW (aN A (aP (cs:=[jI n.ins,n.sv,n.av,n.ov]) A A A A A (aM 1 A 0 A)) ?_)))
 refine cM A (aF A A (fun w hm=>aI (dZ n w (hr.below hm.bel) hn))) (bG 1 A (aG (cN 1 A ?_)))
 refine cH A (fB (z:=.bool false) (s:=1) (bytes:=1) (n:=(replicate n.cnt.toNat bl0).length) (cs:=((replicate n.cnt.toNat bl0).flatMap blC)) A Tryz.underlying61 A V A A AB AB AF (fZ blC 1 (fun _=>A) bl0 _ A n.cnt.toNat)) ?_
 intro g4
 refine bG 1 A (aG (cN 1 A ?_))
 refine cH A (fB (z:=.bool false) (s:=1) (bytes:=1) (n:=(replicate n.cnt.toNat bl0).length) (cs:=((replicate n.cnt.toNat bl0).flatMap blC)) A Tryz.underlying61 A V A A AB AB AF (fZ blC 1 (fun _=>A) bl0 _ A n.cnt.toNat)) ?_
 intro g5
 refine bG 1 A (dW (aN A (aP (cs:=[jI n.ins,n.sv,n.av,n.ov]) A A A A A (aM 3 A 0 A)) ?_))
 refine fF A A A (aF A A (fun w hm=>nC n w (hr.below hm.bel) hn)) ?_
 intro v6 p7 R8
 subst R8
 refine bG 1 A (aG (cF 1 A (bS ?_)))
 refine fP (α:=Nat) (β:=List Bl) (γ:=List Bl) [0,1,2,4,5,6,7,8,9,10,27] rfl (fun i ps ng=>[rowE 3 1 v6 ((rtsL n n.ss.length).length) (mI (rtsL n n.ss.length)),rS9 4 1 (.slice (some ⟨g5,0,none⟩) ((replicate n.cnt.toNat bl0).length) ((replicate n.cnt.toNat bl0).length)) ng blC,rS9 4 1 (.slice (some ⟨g4,0,none⟩) ((replicate n.cnt.toNat bl0).length) ((replicate n.cnt.toNat bl0).length)) ps blC,boxE b2 #[jI 0,.slice none 0 0,.slice none 0 0,.slice none 0 0] 108,nB9 b1 n]) (fun i ps ng=>[(11,jI (i:Int))]) (fun i ps ng=>i≤(rtsL n n.ss.length).length∧ps.length=n.cnt.toNat∧ng.length=n.cnt.toNat∧RtsU ps ng (rtsL n n.ss.length) i) (fun i ps ng=>(rtsL n n.ss.length).length-i) 0 _ _ ⟨Nat.zero_le _,by rw[length_replicate],by rw[length_replicate],fun j hj=>absurd hj (Nat.not_lt_zero _)⟩ (bV rfl) (cZ rfl) ?_
 intro i ps ng cw
 obtain⟨hi,bo,bv,bc⟩:=cw
 refine aG (aG (cN 2 A (aN A (eV A A A (aB 0 A)) ?_)))
 refine aW A A A A A A (fun cx=>?_) (fun cx=>?_)
 refine dL (aR A (eC (jR (dW ?_))))
 have cy:=Cg hn (i:=i) O
 unfold LtOk at cy
 refine aS 2 A (aN A (cV 1 A A A A (aB 0 A)) (aN A (aL (u:=jI ((rtsL n n.ss.length).getD i 0)) A A A (aB 0 A) (cJ (show _<(rtsL n n.ss.length).length by omega))) (aN A (fT A A A AE) ?_)))
 refine bZ A A A A A A (fun cz=>?_) (fun cz=>?_)
 refine dL (aR A (cN 3 A (aN A (cV 1 A A A A (aB 0 A)) (aN A (aL (u:=jI ((rtsL n n.ss.length).getD i 0)) A A A (aB 0 A) (cJ (show _<(rtsL n n.ss.length).length by omega))) ?_))))
 refine aN A (gD A A A AH) ?_
 refine aN A (cV 1 A A A A (aB 2 A)) (dS (i:=2) (n':=(ps.set ((((rtsL n n.ss.length).getD i 0) / 2).toNat) { ps.getD ((((rtsL n n.ss.length).getD i 0) / 2).toNat) bl0 with b:=true }).length) A A A A A A A A AA List.length_set.symm (eF blC (fun r=>.bool r.b) (fun _=>A) _ ({ ps.getD ((((rtsL n n.ss.length).getD i 0) / 2).toNat) bl0 with b:=true }) A) A ?_)
 refine cP (eB (cN 1 A (aN A (eY A A A) (eS 1 A ?_))))
 exact aQ (i+1) (ps.set ((((rtsL n n.ss.length).getD i 0) / 2).toNat) { ps.getD ((((rtsL n n.ss.length).getD i 0) / 2).toNat) bl0 with b:=true }) ng ⟨O,by rw[length_set];exact bo,bv,bc.even rfl O I⟩ O (bV rfl) (cZ rfl)
 refine dL (aV A (cN 3 A (aN A (cV 1 A A A A (aB 0 A)) (aN A (aL (u:=jI ((rtsL n n.ss.length).getD i 0)) A A A (aB 0 A) (cJ (show _<(rtsL n n.ss.length).length by omega))) ?_))))
 refine aN A (gD A A A AH) ?_
 refine aN A (cV 1 A A A A (aB 1 A)) (dS (i:=1) (n':=(ng.set ((((rtsL n n.ss.length).getD i 0) / 2).toNat) { ng.getD ((((rtsL n n.ss.length).getD i 0) / 2).toNat) bl0 with b:=true }).length) A A A A A A A A AA List.length_set.symm (eF blC (fun r=>.bool r.b) (fun _=>A) _ ({ ng.getD ((((rtsL n n.ss.length).getD i 0) / 2).toNat) bl0 with b:=true }) A) A ?_)
 refine cP (eB (cN 1 A (aN A (eY A A A) (eS 1 A ?_))))
 exact aQ (i+1) ps (ng.set ((((rtsL n n.ss.length).getD i 0) / 2).toNat) { ng.getD ((((rtsL n n.ss.length).getD i 0) / 2).toNat) bl0 with b:=true }) ⟨O,bo,by rw[length_set];exact bv,bc.odd rfl O I⟩ O (bV rfl) (cZ rfl)
 refine dL (aV A ?_)
 refine bW (fM ?_)
 refine aO (bB (aG (aG (cN 1 A (aN A (eV A A A (aE hv.row)) (aN A (nK A A A) (bG 1 A (bS ?_))))))))
 refine iG (α:=Int) (β:=List Bl) [0,1,2,4,5,6,7,8,9,10,27,42] A (fun Y p2=>[rowE 3 1 v6 ((rtsL n n.ss.length).length) (mI (rtsL n n.ss.length)),rS9 4 1 (.slice (some ⟨g5,0,none⟩) ((replicate n.cnt.toNat bl0).length) ((replicate n.cnt.toNat bl0).length)) ng blC,rS9 4 1 (.slice (some ⟨g4,0,none⟩) ((replicate n.cnt.toNat bl0).length) ((replicate n.cnt.toNat bl0).length)) p2 blC,boxE b2 #[jI 0,.slice none 0 0,.slice none 0 0,.slice none 0 0] 108,nB9 b1 n]) (fun Y p2=>[(12,jI Y)]) (fun Y p2=>-1≤Y∧Y<(rs.length:Int)∧p2.length=n.cnt.toNat∧RtsU p2 ng (rtsL n n.ss.length) (rtsL n n.ss.length).length∧∀q:Nat,Y<q→q<rs.length→UseP n.fst rs p2 ng q) (fun Y p2=>(Y+1).toNat) _ _ ⟨O,O,bo,(by rw[show i=(rtsL n n.ss.length).length by omega] at bc;exact bc),fun q h1 h2=>absurd h1 O⟩ (bV A) (cZ A) ?_
 intro Y p2 bw
 obtain⟨ez,f0,bx,b4,b5⟩:=bw
 refine aG (aG (cN 1 A ?_))
 refine eK A A A A A A (fun d0=>?_) (fun d0=>?_)
 refine dL (aR A (eC (jR (cF 1 A ?_))))
 refine bS ?_
 refine iG (α:=Nat) (β:=List Bl) [0,1,2,4,5,6,7,8,9,10,12,27,42,69] A (fun k9 p3=>[rowE 3 1 v6 ((rtsL n n.ss.length).length) (mI (rtsL n n.ss.length)),rS9 4 1 (.slice (some ⟨g5,0,none⟩) ((replicate n.cnt.toNat bl0).length) ((replicate n.cnt.toNat bl0).length)) ng blC,rS9 4 1 (.slice (some ⟨g4,0,none⟩) ((replicate n.cnt.toNat bl0).length) ((replicate n.cnt.toNat bl0).length)) p3 blC,boxE b2 #[jI 0,.slice none 0 0,.slice none 0 0,.slice none 0 0] 108,nB9 b1 n]) (fun k9 p3=>[(13,jI (k9:Int))]) (fun k9 p3=>k9≤(rs.getD (Y.toNat) crow0).xs.length∧p3.length=n.cnt.toNat∧RtsU p3 ng (rtsL n n.ss.length) (rtsL n n.ss.length).length∧(∀q:Nat,Y<q→q<rs.length→UseP n.fst rs p3 ng q)∧∀j,j<k9→On p3 ((rs.getD (Y.toNat) crow0).xs.getD j 0)) (fun k9 p3=>(rs.getD (Y.toNat) crow0).xs.length-k9) 0 _ ⟨Nat.zero_le _,bx,b4,b5,fun j hj=>absurd hj (Nat.not_lt_zero _)⟩ (bV A) (cZ A) ?_
 intro k9 p3 bz
 obtain⟨f1,au,aw,ax,bd⟩:=bz
 have f2:=bg _ (eN (es:=rs) (i:=Y.toNat) (d:=crow0) O)
 refine aG (aG (cN 3 A (aN A (cV 1 A A A A (aE hv.row)) ?_)))
 refine aN A (aL (u:=(rs.getD (Y.toNat) crow0).v) A A A (aE hv.row) (dF crowC (fun r=>r.v) (fun _=>A) rs crow0 (show Y.toNat<_ by omega))) (aN A (eV A A A (aE (hv.at (k:=(Y.toNat)) O))) ?_)
 refine aW A A A A A A (fun d1=>?_) (fun d1=>?_)
 refine aS 4 A (aN A (eY A A A) (aN A (cV 1 A A A A (aB 2 A)) ?_))
 refine aN A (aL (u:=.bool ((p3.getD ((n.fst+Y).toNat) bl0).b)) A A A (aB 2 A) (dF blC (fun r=>.bool r.b) (fun _=>A) p3 bl0 (show(n.fst+Y).toNat<_ by omega))) (bD (fun d2=>?_) (fun d2=>?_))
 refine bG 9 A (aR A (eC (jR (bP ?_))))
 have d3:=an.below hn (i:=Y.toNat) O (k:=k9) O
 refine aS 3 A (aN A (cV 1 A A A A (aE hv.row)) ?_)
 refine aN A (aL (u:=(rs.getD (Y.toNat) crow0).v) A A A (aE hv.row) (dF crowC (fun r=>r.v) (fun _=>A) rs crow0 (show Y.toNat<_ by omega))) (aS 1 A (aN A (cV 1 A A A A (aE (hv.at (k:=(Y.toNat)) O))) (aN A (aL (u:=jI (((rs.getD (Y.toNat) crow0).xs).getD k9 0)) A A A (aE (hv.at (k:=(Y.toNat)) O)) (cJ (show _<((rs.getD (Y.toNat) crow0).xs).length by omega))) (aN A (cV 1 A A A A (aB 2 A)) ?_))))
 refine dS (i:=2) (n':=(p3.set ((((rs.getD (Y.toNat) crow0).xs).getD k9 0).toNat) { p3.getD ((((rs.getD (Y.toNat) crow0).xs).getD k9 0).toNat) bl0 with b:=true }).length) A A A A A A A A AA List.length_set.symm (eF blC (fun r=>.bool r.b) (fun _=>A) _ ({ p3.getD ((((rs.getD (Y.toNat) crow0).xs).getD k9 0).toNat) bl0 with b:=true }) A) A (cP (eB (cN 1 A (aN A (eY A A A) (eS 1 A ?_)))))
 exact bO (k9+1) (p3.set ((((rs.getD (Y.toNat) crow0).xs).getD k9 0).toNat) { p3.getD ((((rs.getD (Y.toNat) crow0).xs).getD k9 0).toNat) bl0 with b:=true }) ⟨O,by rw[length_set];exact au,aw.set _,fun q h1 h2=>(ax q h1 h2).set O,fun j hj=>by by_cases e:j=k9;(subst e;exact yE rfl O);exact uK (bd j O)⟩ O (bV rfl) (cZ rfl)
 refine aS 4 A (aN A (eY A A A) (aN A (cV 1 A A A A (aB 1 A)) ?_))
 refine aN A (aL (u:=.bool ((ng.getD ((n.fst+Y).toNat) bl0).b)) A A A (aB 1 A) (dF blC (fun r=>.bool r.b) (fun _=>A) ng bl0 (show(n.fst+Y).toNat<_ by omega))) (bD (fun d4=>?_) (fun d4=>?_))
 refine bG 2 A (aR A (eC (jR (bP ?_))))
 have d3:=an.below hn (i:=Y.toNat) O (k:=k9) O
 refine aS 3 A (aN A (cV 1 A A A A (aE hv.row)) ?_)
 refine aN A (aL (u:=(rs.getD (Y.toNat) crow0).v) A A A (aE hv.row) (dF crowC (fun r=>r.v) (fun _=>A) rs crow0 (show Y.toNat<_ by omega))) (aS 1 A (aN A (cV 1 A A A A (aE (hv.at (k:=(Y.toNat)) O))) (aN A (aL (u:=jI (((rs.getD (Y.toNat) crow0).xs).getD k9 0)) A A A (aE (hv.at (k:=(Y.toNat)) O)) (cJ (show _<((rs.getD (Y.toNat) crow0).xs).length by omega))) (aN A (cV 1 A A A A (aB 2 A)) ?_))))
 refine dS (i:=2) (n':=(p3.set ((((rs.getD (Y.toNat) crow0).xs).getD k9 0).toNat) { p3.getD ((((rs.getD (Y.toNat) crow0).xs).getD k9 0).toNat) bl0 with b:=true }).length) A A A A A A A A AA List.length_set.symm (eF blC (fun r=>.bool r.b) (fun _=>A) _ ({ p3.getD ((((rs.getD (Y.toNat) crow0).xs).getD k9 0).toNat) bl0 with b:=true }) A) A (cP (eB (cN 1 A (aN A (eY A A A) (eS 1 A ?_)))))
 exact bO (k9+1) (p3.set ((((rs.getD (Y.toNat) crow0).xs).getD k9 0).toNat) { p3.getD ((((rs.getD (Y.toNat) crow0).xs).getD k9 0).toNat) bl0 with b:=true }) ⟨O,by rw[length_set];exact au,aw.set _,fun q h1 h2=>(ax q h1 h2).set O,fun j hj=>by by_cases e:j=k9;(subst e;exact yE rfl O);exact uK (bd j O)⟩ O (bV rfl) (cZ rfl)
 refine bG 2 A (aV A ?_)
 refine bW (fM ?_)
 refine aO (eB (cN 1 A (aN A (nK A A A) (eS 1 A ?_))))
 exact bO (Y-1) p3 ⟨O,O,au,aw,fun q h1 h2=>by by_cases e:q=Y.toNat;(subst e;intro h9;first|(exact fun k hk=>bd k O)|(exfalso;revert h9;intro h9;exact absurd h9 (by intro h9;rw[show(Int.toNat Y:Int)=Y by omega] at h9;unfold On at h9;rcases h9 with h9|h9;(rw[show(p3.getD (n.fst+Y).toNat bl0).b=false by assumption] at h9;cases h9);(rw[show(ng.getD (n.fst+Y).toNat bl0).b=false by assumption] at h9;cases h9))));exact ax q O h2⟩ O (bV A) (cZ A)
 refine bG 16 A (aV A ?_)
 refine bW (fM ?_)
 refine aO (eB (cN 1 A (aN A (nK A A A) (eS 1 A ?_))))
 exact bO (Y-1) p3 ⟨O,O,au,aw,fun q h1 h2=>by by_cases e:q=Y.toNat;(subst e;intro h9;first|(exact fun k hk=>bd k O)|(exfalso;revert h9;intro h9;exact absurd h9 (by intro h9;rw[show(Int.toNat Y:Int)=Y by omega] at h9;unfold On at h9;rcases h9 with h9|h9;(rw[show(p3.getD (n.fst+Y).toNat bl0).b=false by assumption] at h9;cases h9);(rw[show(ng.getD (n.fst+Y).toNat bl0).b=false by assumption] at h9;cases h9))));exact ax q O h2⟩ O (bV A) (cZ A)
 refine dL (aV A ?_)
 refine bW (fM ?_)
 refine aO (bB (dW (aN A (fY 0 A A A) (aN A (bJ A A A (bA 4 A A)) (aN A (dG (cs:=#[jI n.ins,.slice none 0 0,.slice none 0 0,.slice none 0 0]) A A A) ?_)))))
 refine cU A (bY (z:=.agg #[jI 0,.slice none 0 0,.slice none 0 0,.slice none 0 0]) A A) ?_
 intro af
 refine cA (cs':=#[jI n.ins,.slice none 0 0,.slice none 0 0,.slice none 0 0]) (i:=0) (off:=0) (us:=[jI n.ins,.slice none 0 0,.slice none 0 0,.slice none 0 0]) A A A A A A A (aC A (aC A (aC A (aC A bH)))) A A A (dL (dW ?_))
 refine cH A (bU (s:=1) A z8 A) ?_
 intro f3
 refine bG 1 A (aG (cN 1 A ?_))
 refine cH A (fB (z:=jI 0) (s:=1) (bytes:=8) (n:=(replicate n.cnt.toNat (0:Int)).length) (cs:=(mI (replicate n.cnt.toNat (0:Int)))) A z8 A V A A AB AB AF (gW _)) ?_
 intro ao
 refine bG 1 A (aG (cF 1 A (bS ?_)))
 refine fP (α:=Nat) (β:=Value) (γ:=List Int) [0,1,2,4,5,6,7,8,9,10,14,16,27,42,69] A (fun k1 u1 a7=>[rowE 3 1 (.slice (some ⟨ao,0,none⟩) ((replicate n.cnt.toNat (0:Int)).length) ((replicate n.cnt.toNat (0:Int)).length)) ((replicate n.cnt.toNat (0:Int)).length) (mI (replicate n.cnt.toNat (0:Int))),rI9 3 u1 a7,boxE af #[jI n.ins,.slice none 0 0,.slice none 0 0,.slice none 0 0] 108,rowE 3 1 v6 ((rtsL n n.ss.length).length) (mI (rtsL n n.ss.length)),rS9 4 1 (.slice (some ⟨g5,0,none⟩) ((replicate n.cnt.toNat bl0).length) ((replicate n.cnt.toNat bl0).length)) ng blC,rS9 4 1 (.slice (some ⟨g4,0,none⟩) ((replicate n.cnt.toNat bl0).length) ((replicate n.cnt.toNat bl0).length)) p2 blC,boxE b2 #[jI 0,.slice none 0 0,.slice none 0 0,.slice none 0 0] 108,nB9 b1 n]) (fun k1 u1 a7=>[(15,u1),(17,jI (k1:Int))]) (fun k1 u1 a7=>(k1:Int)≤n.fst∧a7.length=k1∧TosOk p2 n.fst 0 a7) (fun k1 u1 a7=>n.fst.toNat-k1) 0 _ [] ⟨O,A,TosOk.nil _ _⟩ (bV A) (cZ A) ?_
 intro k1 u1 a7 c0
 obtain⟨f4,eo,bh⟩:=c0
 refine aG (aG (cN 2 A ?_))
 refine aW A A A A A A (fun d5=>?_) (fun d5=>?_)
 refine dL (aR A (eC (jR (cN 2 A ?_))))
 refine cH A (aH (z:=jI 0) (s:=1) (cs:=(mI [(k1:Int)])) A z8 A V A F A) ?_
 intro f5
 refine bT (i:=2) (z:=jI 0) (bytes:=8) A A A A z8 F A A A A (aB 0 A) (bI _) AD (bK a7 ([(k1:Int)])) (cB a7 ([(k1:Int)])) (fun _=>A) ?_
 intro d6
 refine eS 1 A (eB (cN 1 A (aN A (eY A A A) (eS 1 A ?_))))
 exact aQ (k1+1) d6 (a7++([(k1:Int)])) ⟨O,by rw[length_append,length_singleton];omega,bh.app (Nat.le_refl _) (fun _=>O)⟩ O (bV rfl) (eA [1,0,0,0,0,0,0,0] rfl)
 refine dL (aV A ?_)
 refine bW (fM ?_)
 refine aO (bB (aG (cF 1 A (bS ?_))))
 refine fK [rowE 157 2 (.slice none 0 0) (([]:List Lt).length) (([]:List Lt).flatMap ltC),rowE 3 1 (.slice (some ⟨ao,0,none⟩) ((replicate n.cnt.toNat (0:Int)).length) ((replicate n.cnt.toNat (0:Int)).length)) ((replicate n.cnt.toNat (0:Int)).length) (mI (replicate n.cnt.toNat (0:Int))),rI9 3 u1 a7,boxE af #[jI n.ins,.slice none 0 0,.slice none 0 0,.slice none 0 0] 108,rowE 3 1 v6 ((rtsL n n.ss.length).length) (mI (rtsL n n.ss.length)),rS9 4 1 (.slice (some ⟨g5,0,none⟩) ((replicate n.cnt.toNat bl0).length) ((replicate n.cnt.toNat bl0).length)) ng blC,rS9 4 1 (.slice (some ⟨g4,0,none⟩) ((replicate n.cnt.toNat bl0).length) ((replicate n.cnt.toNat bl0).length)) p2 blC,boxE b2 #[jI 0,.slice none 0 0,.slice none 0 0,.slice none 0 0] 108,nB9 b1 n] (fun w hm=>hm.nilRow 157 2) ?_
 refine fK [rowE 148 3 (.slice none 0 0) (([]:List Sq).length) (([]:List Sq).flatMap sqC),rowE 157 2 (.slice none 0 0) (([]:List Lt).length) (([]:List Lt).flatMap ltC),rowE 3 1 (.slice (some ⟨ao,0,none⟩) ((replicate n.cnt.toNat (0:Int)).length) ((replicate n.cnt.toNat (0:Int)).length)) ((replicate n.cnt.toNat (0:Int)).length) (mI (replicate n.cnt.toNat (0:Int))),rI9 3 u1 a7,boxE af #[jI n.ins,.slice none 0 0,.slice none 0 0,.slice none 0 0] 108,rowE 3 1 v6 ((rtsL n n.ss.length).length) (mI (rtsL n n.ss.length)),rS9 4 1 (.slice (some ⟨g5,0,none⟩) ((replicate n.cnt.toNat bl0).length) ((replicate n.cnt.toNat bl0).length)) ng blC,rS9 4 1 (.slice (some ⟨g4,0,none⟩) ((replicate n.cnt.toNat bl0).length) ((replicate n.cnt.toNat bl0).length)) p2 blC,boxE b2 #[jI 0,.slice none 0 0,.slice none 0 0,.slice none 0 0] 108,nB9 b1 n] (fun w hm=>hm.nilRow 148 3) ?_
 refine fK _ hF ?_
 refine mS (α:=Nat) (β:=List Int) (γ:=List Lt) (δ:=(Value×Value)×List HP) [0,1,2,4,5,6,7,8,9,10,14,16,27,42,69,114] A (fun j2 G ls a4=>[bigE a4.2,rowE 148 3 (.slice none 0 0) (([]:List Sq).length) (([]:List Sq).flatMap sqC),rS9 157 2 a4.1.2 ls ltC,rowE 3 1 (.slice (some ⟨ao,0,none⟩) ((replicate n.cnt.toNat (0:Int)).length) ((replicate n.cnt.toNat (0:Int)).length)) ((replicate n.cnt.toNat (0:Int)).length) (mI (replicate n.cnt.toNat (0:Int))),rI9 3 a4.1.1 G,boxE af #[jI n.ins,.slice none 0 0,a4.1.2,.slice none 0 0] 108,rS9 4 1 (.slice (some ⟨g5,0,none⟩) ((replicate n.cnt.toNat bl0).length) ((replicate n.cnt.toNat bl0).length)) ng blC,rS9 4 1 (.slice (some ⟨g4,0,none⟩) ((replicate n.cnt.toNat bl0).length) ((replicate n.cnt.toNat bl0).length)) p2 blC,boxE b2 #[jI 0,.slice none 0 0,.slice none 0 0,.slice none 0 0] 108,nB9 b1 n]) (fun j2 G ls a4=>[(15,a4.1.1),(18,jI (j2:Int))]) (fun j2 G ls a4=>j2≤rs.length∧(G.length:Int)=n.fst+(j2:Int)∧ls.length≤j2∧LutsOk n.fst ls∧TosOk p2 n.fst ls.length G∧∀w,(bigE a4.2).holds w→RdsLuts w ls) (fun j2 G ls a4=>rs.length-j2) 0 _ [] ((_,_),[]) ⟨Nat.zero_le _,O,Nat.le_refl _,LutsOk.nil _,bh,fun w _=>RdsLuts.nil w⟩ (bV A) (eA [0,0,0,0,0,0,1,0,0,0] A) ?_
 intro j2 G ls a4 c1
 obtain⟨f6,ep,f7,bp,ay,br⟩:=c1
 refine aG (aG (cN 2 A (aN A (eV A A A (aE hv.row)) ?_)))
 refine aW A A A A A A (fun d7=>?_) (fun d7=>?_)
 refine dL (aR A (eC (jR (aG (cN 2 A (aN A (fY 2 A A A) (aN A (bJ A A A (bA 5 A A)) (aN A (eV A A A (aB 2 A)) ?_))))))))
 refine aN A (eY A A A) (cH A (aH (z:=jI 0) (s:=1) (cs:=(mI [n.fst+(ls.length:Int)])) A z8 A V A F A) ?_)
 intro f8
 refine bT (i:=5) (z:=jI 0) (bytes:=8) A A A A z8 F A A A A (aB 0 A) (bI _) AD (bK G ([n.fst+(ls.length:Int)])) (cB G ([n.fst+(ls.length:Int)])) (fun _=>A) ?_
 intro bs
 refine bG 1 A (dW ?_)
 have ap:=(an.cut j2 O).1
 have c2:=ap.len
 have aa:∀k,k<(rs.getD j2 crow0).xs.length→0≤(rs.getD j2 crow0).xs.getD k 0∧(rs.getD j2 crow0).xs.getD k 0<G.length:=fun k hk=>by have:=an.below hn (i:=j2) O hk;omega
 refine aS 3 A (aN A (eY A A A) (aN A (cV 1 A A A A (aB 8 A)) ?_))
 refine aN A (aL (u:=.bool ((p2.getD ((n.fst+(j2:Int)).toNat) bl0).b)) A A A (aB 8 A) (dF blC (fun r=>.bool r.b) (fun _=>A) p2 bl0 (show(n.fst+(j2:Int)).toNat<_ by omega))) (bD (fun d8=>?_) (fun d8=>?_))
 refine dL (aR A (aG ?_))
 have b6:=b5 j2 O O (.inl I)
 refine eI A 10 [0,1,2,3,4,5,6,7,8,9] (List.take 10 _) (List.drop 10 _) [[],[],[],[1,2],[],[],[4,5],[6],[0,3,7],[]] [141,142,143,144,145,146,147,148,149,19] (fun i_ ab K J=>match i_ with|0=>K=.agg #[jI n.ins,n.sv,n.av,n.ov]∧J=[]|1=>K=jI n.fst∧J=[]|2=>K=jI (j2:Int)∧J=[]|3=>K=jI (n.fst+(j2:Int))∧J=[]|4=>K=v∧J=[]|5=>K=jI (j2:Int)∧J=[]|6=>K=elP v ((j2:Int).toNat*1)∧J=[]|7=>K=(rs.getD j2 crow0).v∧J=[]|8=>(fun u_ J=>∃b:Int,u_=.agg #[jI (((rs.getD j2 crow0).xs).length:Int),jI b]∧J=[]∧TabOk (Tab.mk (((rs.getD j2 crow0).xs).length:Int) b)) K J|9=>IsBox #[jI 0,jI 0] 153 K J|_=>True) (take_append_drop 10 _).symm F F A A ?_ ?_
 refine⟨?_,?_,?_,?_,?_,?_,?_,?_,?_,?_,trivial⟩
 intro vf E D
 exact eH A (aD [2] A) (aK (aP (cs:=[jI n.ins,n.sv,n.av,n.ov]) A A A A A (aM 10 A 0 A)))
 intro vf E D
 exact fG A (aD [7] A) (aK (aU A))
 intro vf E D
 exact fG A (aD [18] A) (aK (aU A))
 intro vf E D
 have e1:=D 1 V
 have e2:=D 2 V
 exact fG A (aX 142 e1.1 (aX 143 e2.1 (aA _))) (aK (eY A A A))
 intro vf E D
 exact fG A (aD [1] A) (aK (aU A))
 intro vf E D
 exact fG A (aD [18] A) (aK (aU A))
 intro vf E D
 have e4:=D 4 V
 have e5:=D 5 V
 exact eH A (aX 145 e4.1 (aX 146 e5.1 (aA _))) (aK (cV 1 A A A A (aE hv.row)))
 intro vf E D
 have e6:=D 6 V
 exact eH A (aX 147 e6.1 (aA _)) (aK (aL (u:=(rs.getD j2 crow0).v) A A A (aE hv.row) (dF crowC (fun r=>r.v) (fun _=>A) rs crow0 (show j2<_ by omega))))
 intro vf E D
 have e0:=D 0 V
 have e3:=D 3 V
 have e7:=D 7 V
 exact eH A (aX 141 e0.1 (aX 144 e3.1 (aX 148 e7.1 (aA _)))) (aF A A (fun w hm=>oZ n (n.fst+(j2:Int)) ((rs.getD j2 crow0).xs) _ w (hr.below hm.bel) hn ((aE (hv.at (k:=j2) O)) w hm) O ap))
 intro vf E D
 exact eH A (aA _) (bY (z:=.agg #[jI 0,jI 0]) A A)
 intro vf E D
 obtain⟨f9,ac⟩:=dU (vf 8)
 obtain⟨fa,aq⟩:=dU (E 8)
 have c3:=D 8 V
 rw[ac,aq] at c3
 obtain⟨bq,rfl,rfl,b7⟩:=c3
 obtain⟨d9,b3,be⟩:=D 9 V
 have q0:=D 0 V
 have q1:=D 1 V
 have q2:=D 2 V
 have q3:=D 3 V
 have q4:=D 4 V
 have q5:=D 5 V
 have q6:=D 6 V
 have q7:=D 7 V
 refine cL (bE [18,16,15,14,10,9,8,7,6,5,4,2,1,0] _ (aX 19 b3 (bE [140,124,114,69,42,27] _ (aX 149 ac (aA _)) A)) A) (by simp only[aq,ac,be,b3,q0.2,q1.2,q2.2,q3.2,q4.2,q5.2,q6.2,q7.2,fS]<;>rfl) ?_
 simp only[drop_succ_cons,drop_zero]
 refine cA (cs':=#[jI (((rs.getD j2 crow0).xs).length:Int),jI bq]) (i:=0) (off:=0) (us:=[jI (((rs.getD j2 crow0).xs).length:Int),jI bq]) A A A A A A A (aC A (aC A bH)) A A A (dL ?_)
 refine eI A 12 [0,1,2,3,4,5,6,7,8,9,10,11] (List.take 12 _) (List.drop 12 _) [[],[0],[],[],[],[3,4],[5],[2,6],[],[8],[7,9],[7,10]] [150,151,152,153,154,155,156,157,158,159,160,161] (fun i_ ab K J=>match i_ with|0=>K=.pointer (some ⟨af,0+2,none⟩)∧J=[]|1=>K=a4.1.2∧J=[]|2=>K=bs∧J=[]|3=>K=v∧J=[]|4=>K=jI (j2:Int)∧J=[]|5=>K=elP v ((j2:Int).toNat*1)∧J=[]|6=>K=(rs.getD j2 crow0).v∧J=[]|7=>(fun v' post=>post=[rowE 3 1 v' ((ndL (G++([n.fst+(ls.length:Int)])) ((rs.getD j2 crow0).xs))).length (((ndL (G++([n.fst+(ls.length:Int)])) ((rs.getD j2 crow0).xs))).map (Value.int .i64))]) K J|8=>K=.pointer (some ⟨d9,0+1,none⟩)∧J=[]|9=>K=jI bq∧J=[]|10=>K=.agg #[(gV9 ab 0),jI bq]∧J=[]|11=>IsRow 157 2 1 ([(gV9 ab 0),jI bq]) K J|_=>True) (take_append_drop 12 _).symm F F A A ?_ ?_
 refine⟨?_,?_,?_,?_,?_,?_,?_,?_,?_,?_,?_,?_,trivial⟩
 intro vf E D
 exact fG A (aD [14] A) (aK (fY 2 A A A))
 intro vf E D
 have e0:=D 0 V
 exact eH A (aX 150 e0.1 (aA _)) (aK (bJ A A A (bA 7 A A)))
 intro vf E D
 exact fG A (aD [15] A) (aK (aU A))
 intro vf E D
 exact fG A (aD [1] A) (aK (aU A))
 intro vf E D
 exact fG A (aD [18] A) (aK (aU A))
 intro vf E D
 have e3:=D 3 V
 have e4:=D 4 V
 exact eH A (aX 153 e3.1 (aX 154 e4.1 (aA _))) (aK (cV 1 A A A A (aE hv.row)))
 intro vf E D
 have e5:=D 5 V
 exact eH A (aX 155 e5.1 (aA _)) (aK (aL (u:=(rs.getD j2 crow0).v) A A A (aE hv.row) (dF crowC (fun r=>r.v) (fun _=>A) rs crow0 (show j2<_ by omega))))
 intro vf E D
 have e2:=D 2 V
 have e6:=D 6 V
 exact eH A (aX 152 e2.1 (aX 156 e6.1 (aA _))) (aF A A (fun w hm=>qU (G++([n.fst+(ls.length:Int)])) ((rs.getD j2 crow0).xs) _ _ w ((aB 6 A) w hm) ((aE (hv.at (k:=j2) O)) w hm) (fun k hk=>by have:=aa k hk;rw[length_append];omega) O))
 intro vf E D
 exact fG A (aD [19] A) (aK (fY 1 A A A))
 intro vf E D
 have e8:=D 8 V
 exact eH A (aX 158 e8.1 (aA _)) (aK (bJ A A A (bA 0 A A)))
 intro vf E D
 obtain⟨ad,a0⟩:=dU (vf 7)
 obtain⟨c4,a5⟩:=dU (E 7)
 have ag:=D 7 V
 rw[a0,a5] at ag
 subst ag
 have e9:=D 9 V
 refine Or.inl ⟨A,?_⟩
 exact bQ (aX 157 a0 (aX 159 e9.1 (aA _))) (by simp only[a5,a0,e9.2,fS]<;>rfl) (dM (aK (kG (cs:=#[ad,jI bq]) A A (fun w hm=>vR ad bq ((aB 0 A w hm).one)))) (fun _ _ h=>⟨h.1.trans (by show _=(.agg #[(vf 7),jI bq]:Value);first|(rw[a0];done)|(rw[a0];rfl)),h.2⟩))
 intro vf E D
 obtain⟨ad,a0⟩:=dU (vf 7)
 obtain⟨c4,a5⟩:=dU (E 7)
 have ag:=D 7 V
 rw[a0,a5] at ag
 subst ag
 have ah:(vf 10)=.agg #[(vf 7),jI bq]∧(E 10)=[]:=D 10 V
 rw[a0] at ah
 refine Or.inl ⟨A,?_⟩
 exact bQ (aX 160 ah.1 (aA _)) (by simp only[a5,a0,ah.2,fS]<;>rfl) (dM (aH (z:=.agg #[.slice none 0 0,jI 0]) (s:=2) (cs:=[ad,jI bq]) A Tryz.underlying106 A V A F A) (fun K J h=>by show IsRow 157 2 1 ([(vf 7),jI bq]) K J;rw[a0];exact h))
 intro vf E D
 have e1:=D 1 V
 obtain⟨ad,a0⟩:=dU (vf 7)
 obtain⟨c4,a5⟩:=dU (E 7)
 have ag:=D 7 V
 rw[a0,a5] at ag
 subst ag
 have bf:IsRow 157 2 1 ([(vf 7),jI bq]) (vf 11) (E 11):=D 11 V
 rw[a0] at bf
 obtain⟨fb,bi,c5⟩:=bf
 have q0:=D 0 V
 have q1:=D 1 V
 have q2:=D 2 V
 have q3:=D 3 V
 have q4:=D 4 V
 have q5:=D 5 V
 have q6:=D 6 V
 have q8:=D 8 V
 have q9:=D 9 V
 have b8:=D 10 V
 refine cL (bE [140,124,114,69,42,27,19,18,16,15,14,10,9,8,7,6,5,4,2,1,0] _ (aX 151 e1.1 (aX 161 bi (aA _))) A) (by simp only[a5,a0,c5,bi,q0.2,q1.2,q2.2,q3.2,q4.2,q5.2,q6.2,q8.2,q9.2,b8.2,fS]<;>rfl) ?_
 simp only[drop_succ_cons,drop_zero]
 refine eE (i:=0) A (fun c6=>?_)
 refine bT (i:=6) (z:=.agg #[.slice none 0 0,jI 0]) (bytes:=32) A A A A Tryz.underlying106 F A A A A (aB 1 A) (aC c6 (aC A bH)) AC (bK ls [(Lt.mk ad (ndL (G++([n.fst+(ls.length:Int)])) ((rs.getD j2 crow0).xs)) bq)]) (dP ltC ls (Lt.mk ad (ndL (G++([n.fst+(ls.length:Int)])) ((rs.getD j2 crow0).xs)) bq) _ A) (fun _=>A) ?_
 intro c7
 refine aN A (fY 2 A A A) (eE (i:=6) A (fun c8=>?_))
 refine gB (i:=9) (cs':=#[jI n.ins,.slice none 0 0,c7,.slice none 0 0]) A A A A A A c8 A A A A (cP (eB (cN 1 A (aN A (eY A A A) (eS 1 A ?_)))))
 refine bN 14 [13,12,11,10,9,8,7,6,5,0,4] A A V ?_
 refine dN 2 A ?_
 exact dH (j2+1) (G++([n.fst+(ls.length:Int)])) (ls++[(Lt.mk ad (ndL (G++([n.fst+(ls.length:Int)])) ((rs.getD j2 crow0).xs)) bq)]) ((bs,c7),[bigE a4.2,rowE 3 1 ad ((ndL (G++([n.fst+(ls.length:Int)])) ((rs.getD j2 crow0).xs)).length) (mI (ndL (G++([n.fst+(ls.length:Int)])) ((rs.getD j2 crow0).xs)))]) ⟨O,by rw[length_append,length_singleton];omega,by rw[length_append,length_singleton];omega,bp.app (Eg b7 (by show(_:Int)=_;rw[qM]) (by rw[qM];exact ap.len) (by rw[Ke aa];exact Bn ay aa b6)),(by rw[length_append,length_singleton];exact ay.app (Nat.le_succ _) (fun _=>O)),fun w hw=>(br w (bF hw eG)).app (cI (bF hw (fW eG)))⟩ O (bV rfl) (cZ rfl)
 refine dL (jQ A (eB (cN 1 A (aN A (eY A A A) (eS 1 A ?_)))))
 exact dH (j2+1) (G++([n.fst+(ls.length:Int)])) ls ((bs,a4.1.2),a4.2) ⟨O,by rw[length_append,length_singleton];omega,O,bp,ay.app (Nat.le_refl _) (fun h9=>by rcases h9 with h9|h9;(omega);(unfold On at h9;rw[show(G.length:Int)=n.fst+(j2:Int) by omega] at h9;rw[show(p2.getD (n.fst+(j2:Int)).toNat bl0).b=false by assumption] at h9;cases h9)),br⟩ O (bV rfl) (eA [1,0,0,0,0,0,0,0,0,0] rfl)
 refine dL (aV A ?_)
 refine bW (fM ?_)
 refine aO (bB (aG (cF 1 A (bS ?_))))
 refine mS (α:=Nat) (β:=List Int) (γ:=List Lt) (δ:=Value×List HP) [0,1,2,4,5,6,7,8,9,10,14,15,16,27,42,69,114,124] rfl (fun M Z U a2=>[bigE a2.2,rowE 148 3 (.slice none 0 0) (([]:List Sq).length) (([]:List Sq).flatMap sqC),rS9 157 2 a2.1 U ltC,rI9 3 (.slice (some ⟨ao,0,none⟩) ((replicate n.cnt.toNat (0:Int)).length) ((replicate n.cnt.toNat (0:Int)).length)) Z,rI9 3 a4.1.1 G,boxE af #[jI n.ins,.slice none 0 0,a2.1,.slice none 0 0] 108,rS9 4 1 (.slice (some ⟨g5,0,none⟩) ((replicate n.cnt.toNat bl0).length) ((replicate n.cnt.toNat bl0).length)) ng blC,rS9 4 1 (.slice (some ⟨g4,0,none⟩) ((replicate n.cnt.toNat bl0).length) ((replicate n.cnt.toNat bl0).length)) p2 blC,boxE b2 #[jI 0,.slice none 0 0,.slice none 0 0,.slice none 0 0] 108,nB9 b1 n]) (fun M Z U a2=>[(20,jI (M:Int))]) (fun M Z U a2=>(M:Int)≤n.cnt∧Z.length=n.cnt.toNat∧U.length≤rs.length+M∧LutsOk n.fst U∧TosOk p2 n.fst U.length G∧NosOk ng n.fst U.length M Z∧∀w,(bigE a2.2).holds w→RdsLuts w U) (fun M Z U a2=>n.cnt.toNat-M) 0 _ _ (_,_) ⟨O,by rw[length_replicate],O,bp,ay,fun j hj=>absurd hj (Nat.not_lt_zero _),br⟩ (bV rfl) (cZ rfl) ?_
 intro M Z U a2 ca
 obtain⟨fc,az,eq,ai,a8,b9,aj⟩:=ca
 refine aG (aG (cN 2 A ?_))
 refine aW A A A A A A (fun da=>?_) (fun da=>?_)
 refine dL (aR A (eC (jR (aG (aG (cN 2 A (aN A (cV 1 A A A A (aB 6 A)) ?_)))))))
 refine aN A (aL (u:=.bool ((ng.getD M bl0).b)) A A A (aB 6 A) (dF blC (fun r=>.bool r.b) (fun _=>A) ng bl0 (show M<_ by omega))) (bD (fun db=>?_) (fun db=>?_))
 refine bG 1 A (aV A (eC (aG (cN 3 A (aN A (fY 2 A A A) (aN A (bJ A A A (bA 5 A A)) (aN A (eV A A A (aB 2 A)) (aN A (eY A A A) ?_))))))))
 refine aN A (cV 1 A A A A (aB 3 A)) (dS (i:=3) (n':=(Z.set M (n.fst+(U.length:Int))).length) (xs':=(mI (Z.set M (n.fst+(U.length:Int))))) A A A A A A A A AA List.length_set.symm (eP _ _ _) A ?_)
 refine dL (dW (aN A (dG (cs:=#[.slice none 0 0,jI 1]) A A A) ?_))
 refine cU A (bY (z:=.agg #[.slice none 0 0,jI 0]) A A) ?_
 intro fd
 refine cA (cs':=#[.slice none 0 0,jI 1]) (i:=0) (off:=0) (us:=[.slice none 0 0,jI 1]) A A A A A A A (aC A (aC A bH)) A A A (dL (aG (aG (cN 2 A ?_))))
 refine eK A A A A A A (fun dc=>?_) (fun dc=>?_)
 refine dL (aR A (aG ?_))
 have ap:CutP n (M:Int) (rs.getD (((M:Int)-n.fst).toNat) crow0).xs:=by have h9:=(an.cut (((M:Int)-n.fst).toNat) O).1;rwa [show n.fst+((((M:Int)-n.fst).toNat):Int)=(M:Int) by omega] at h9
 have c2:=ap.len
 have aa:∀k,k<(rs.getD (((M:Int)-n.fst).toNat) crow0).xs.length→0≤(rs.getD (((M:Int)-n.fst).toNat) crow0).xs.getD k 0∧(rs.getD (((M:Int)-n.fst).toNat) crow0).xs.getD k 0<G.length:=fun k hk=>by have:=an.below hn (i:=(((M:Int)-n.fst).toNat)) O hk;omega
 have b6:=b5 (((M:Int)-n.fst).toNat) O O (.inr (by rw[show n.fst+((((M:Int)-n.fst).toNat):Int)=(M:Int) by omega];unfold On;rw[Int.toNat_natCast];assumption))
 refine eI A 11 [0,1,2,3,4,5,6,7,8,9,10] (List.take 11 _) (List.drop 11 _) [[],[],[],[],[],[3,4],[2,5],[6],[0,1,7],[8],[]] [186,187,188,189,190,191,192,193,194,195,22] (fun i_ ab K J=>match i_ with|0=>K=.agg #[jI n.ins,n.sv,n.av,n.ov]∧J=[]|1=>K=jI (M:Int)∧J=[]|2=>K=v∧J=[]|3=>K=jI (M:Int)∧J=[]|4=>K=jI n.fst∧J=[]|5=>K=jI ((M:Int)-n.fst)∧J=[]|6=>K=elP v (((M:Int)-n.fst).toNat*1)∧J=[]|7=>K=(rs.getD (((M:Int)-n.fst).toNat) crow0).v∧J=[]|8=>(fun u_ J=>∃b:Int,u_=.agg #[jI (((rs.getD (((M:Int)-n.fst).toNat) crow0).xs).length:Int),jI b]∧J=[]∧TabOk (Tab.mk (((rs.getD (((M:Int)-n.fst).toNat) crow0).xs).length:Int) b)) K J|9=>(fun u_ J=>J=[]∧∃t:Tab,TabOk t∧t.N=(((rs.getD (((M:Int)-n.fst).toNat) crow0).xs).length:Int)∧u_=.agg #[jI t.N,jI t.B]) K J|10=>IsBox #[jI 0,jI 0] 153 K J|_=>True) (take_append_drop 11 _).symm F F A A ?_ ?_
 refine⟨?_,?_,?_,?_,?_,?_,?_,?_,?_,?_,?_,trivial⟩
 intro vf E D
 exact eH A (aD [2] A) (aK (aP (cs:=[jI n.ins,n.sv,n.av,n.ov]) A A A A A (aM 10 A 0 A)))
 intro vf E D
 exact fG A (aD [20] A) (aK (aU A))
 intro vf E D
 exact fG A (aD [1] A) (aK (aU A))
 intro vf E D
 exact fG A (aD [20] A) (aK (aU A))
 intro vf E D
 exact fG A (aD [7] A) (aK (aU A))
 intro vf E D
 have e3:=D 3 V
 have e4:=D 4 V
 exact fG A (aX 189 e3.1 (aX 190 e4.1 (aA _))) (aK (nK A A A))
 intro vf E D
 have e2:=D 2 V
 have e5:=D 5 V
 exact eH A (aX 188 e2.1 (aX 191 e5.1 (aA _))) (aK (cV 1 A A A A (aE hv.row)))
 intro vf E D
 have e6:=D 6 V
 exact eH A (aX 192 e6.1 (aA _)) (aK (aL (u:=(rs.getD (((M:Int)-n.fst).toNat) crow0).v) A A A (aE hv.row) (dF crowC (fun r=>r.v) (fun _=>A) rs crow0 (show((M:Int)-n.fst).toNat<_ by omega))))
 intro vf E D
 have e0:=D 0 V
 have e1:=D 1 V
 have e7:=D 7 V
 exact eH A (aX 186 e0.1 (aX 187 e1.1 (aX 193 e7.1 (aA _)))) (aF A A (fun w hm=>oZ n (M:Int) ((rs.getD (((M:Int)-n.fst).toNat) crow0).xs) _ w (hr.below hm.bel) hn ((aE (hv.at (k:=(((M:Int)-n.fst).toNat)) O)) w hm) O ap))
 intro vf E D
 obtain⟨dd,ac⟩:=dU (vf 8)
 obtain⟨de,aq⟩:=dU (E 8)
 have ba:=D 8 V
 rw[ac,aq] at ba
 obtain⟨bq,rfl,rfl,b7⟩:=ba
 exact eH A (aX 194 ac (aA _)) (aF A A (fun w hm=>zD (((rs.getD (((M:Int)-n.fst).toNat) crow0).xs).length:Int) bq w b7.1 b7.2))
 intro vf E D
 exact eH A (aA _) (bY (z:=.agg #[jI 0,jI 0]) A A)
 intro vf E D
 obtain⟨dd,ac⟩:=dU (vf 8)
 obtain⟨de,aq⟩:=dU (E 8)
 have ba:=D 8 V
 rw[ac,aq] at ba
 obtain⟨bq,rfl,rfl,b7⟩:=ba
 obtain⟨fe,b3⟩:=dU (vf 9)
 obtain⟨ff,be⟩:=dU (E 9)
 have cb:=D 9 V
 rw[b3,be] at cb
 obtain⟨rfl,tq,df,dg,rfl⟩:=cb
 obtain⟨dh,bj,cc⟩:=D 10 V
 have q0:=D 0 V
 have q1:=D 1 V
 have q2:=D 2 V
 have q3:=D 3 V
 have q4:=D 4 V
 have q5:=D 5 V
 have q6:=D 6 V
 have q7:=D 7 V
 refine cL (bE [21,20,16,15,14,10,9,8,7,6,5,4,2,1,0] _ (aX 22 bj (bE [185,173,166,124,114,69,42,27] _ (aX 195 b3 (aA _)) A)) A) (by simp only[aq,ac,be,b3,cc,bj,q0.2,q1.2,q2.2,q3.2,q4.2,q5.2,q6.2,q7.2,fS]<;>rfl) ?_
 simp only[drop_succ_cons,drop_zero]
 refine cA (cs':=#[jI tq.N,jI tq.B]) (i:=0) (off:=0) (us:=[jI tq.N,jI tq.B]) A A A A A A A (aC A (aC A bH)) A A A (dL ?_)
 refine eI A 11 [0,1,2,3,4,5,6,7,8,9,10] (List.take 11 _) (List.drop 11 _) [[],[],[],[],[2,3],[1,4],[5],[0,6],[],[8],[7,9]] [196,197,198,199,200,201,202,203,204,205,206] (fun i_ ab K J=>match i_ with|0=>K=a4.1.1∧J=[]|1=>K=v∧J=[]|2=>K=jI (M:Int)∧J=[]|3=>K=jI n.fst∧J=[]|4=>K=jI ((M:Int)-n.fst)∧J=[]|5=>K=elP v (((M:Int)-n.fst).toNat*1)∧J=[]|6=>K=(rs.getD (((M:Int)-n.fst).toNat) crow0).v∧J=[]|7=>(fun v' post=>post=[rowE 3 1 v' ((ndL G ((rs.getD (((M:Int)-n.fst).toNat) crow0).xs))).length (((ndL G ((rs.getD (((M:Int)-n.fst).toNat) crow0).xs))).map (Value.int .i64))]) K J|8=>K=.pointer (some ⟨dh,0+1,none⟩)∧J=[]|9=>K=jI tq.B∧J=[]|10=>K=.agg #[(gV9 ab 0),jI tq.B]∧J=[]|_=>True) (take_append_drop 11 _).symm F F A A ?_ ?_
 refine⟨?_,?_,?_,?_,?_,?_,?_,?_,?_,?_,?_,trivial⟩
 intro vf E D
 exact fG A (aD [15] A) (aK (aU A))
 intro vf E D
 exact fG A (aD [1] A) (aK (aU A))
 intro vf E D
 exact fG A (aD [20] A) (aK (aU A))
 intro vf E D
 exact fG A (aD [7] A) (aK (aU A))
 intro vf E D
 have e2:=D 2 V
 have e3:=D 3 V
 exact fG A (aX 198 e2.1 (aX 199 e3.1 (aA _))) (aK (nK A A A))
 intro vf E D
 have e1:=D 1 V
 have e4:=D 4 V
 exact eH A (aX 197 e1.1 (aX 200 e4.1 (aA _))) (aK (cV 1 A A A A (aE hv.row)))
 intro vf E D
 have e5:=D 5 V
 exact eH A (aX 201 e5.1 (aA _)) (aK (aL (u:=(rs.getD (((M:Int)-n.fst).toNat) crow0).v) A A A (aE hv.row) (dF crowC (fun r=>r.v) (fun _=>A) rs crow0 (show((M:Int)-n.fst).toNat<_ by omega))))
 intro vf E D
 have e0:=D 0 V
 have e6:=D 6 V
 exact eH A (aX 196 e0.1 (aX 202 e6.1 (aA _))) (aF A A (fun w hm=>qU G ((rs.getD (((M:Int)-n.fst).toNat) crow0).xs) _ _ w ((aB 6 A) w hm) ((aE (hv.at (k:=(((M:Int)-n.fst).toNat)) O)) w hm) aa O))
 intro vf E D
 exact fG A (aD [22] A) (aK (fY 1 A A A))
 intro vf E D
 have e8:=D 8 V
 exact eH A (aX 204 e8.1 (aA _)) (aK (bJ A A A (bA 0 A A)))
 intro vf E D
 obtain⟨a9,a0⟩:=dU (vf 7)
 obtain⟨di,a5⟩:=dU (E 7)
 have bb:=D 7 V
 rw[a0,a5] at bb
 subst bb
 have e9:=D 9 V
 refine Or.inl ⟨A,?_⟩
 exact bQ (aX 203 a0 (aX 205 e9.1 (aA _))) (by simp only[a5,a0,e9.2,fS]<;>rfl) (dM (aK (kG (cs:=#[a9,jI tq.B]) A A (fun w hm=>vR a9 tq.B ((aB 0 A w hm).one)))) (fun _ _ h=>⟨h.1.trans (by show _=(.agg #[(vf 7),jI tq.B]:Value);first|(rw[a0];done)|(rw[a0];rfl)),h.2⟩))
 intro vf E D
 obtain⟨a9,a0⟩:=dU (vf 7)
 obtain⟨di,a5⟩:=dU (E 7)
 have bb:=D 7 V
 rw[a0,a5] at bb
 subst bb
 have ah:(vf 10)=.agg #[(vf 7),jI tq.B]∧(E 10)=[]:=D 10 V
 rw[a0] at ah
 have q0:=D 0 V
 have q1:=D 1 V
 have q2:=D 2 V
 have q3:=D 3 V
 have q4:=D 4 V
 have q5:=D 5 V
 have q6:=D 6 V
 have q8:=D 8 V
 have q9:=D 9 V
 have b8:=D 10 V
 refine cL (bE [185,173,166,124,114,69,42,27,22,21,20,16,15,14,10,9,8,7,6,5,4,2,1,0] _ (aX 206 ah.1 (aA _)) A) (by simp only[a5,a0,q0.2,q1.2,q2.2,q3.2,q4.2,q5.2,q6.2,q8.2,q9.2,b8.2,fS]<;>rfl) ?_
 simp only[drop_succ_cons,drop_zero]
 refine eE (i:=0) A (fun bk=>?_)
 refine cA (cs':=#[a9,jI tq.B]) (i:=2) (off:=0) (us:=[a9,jI tq.B]) A A A A A A A (aC bk (aC A bH)) A A A (dL (bP (aN A (fY 2 A A A) (aN A (bJ A A A (bA 8 A A)) (aN A (aP (cs:=[a9,jI tq.B]) A A A A A (aM 2 A 0 A)) ?_)))))
 refine cH A (aH (z:=.agg #[.slice none 0 0,jI 0]) (s:=2) (cs:=[a9,jI tq.B]) A Tryz.underlying106 A V A F A) ?_
 intro fg
 refine bT (i:=6) (z:=.agg #[.slice none 0 0,jI 0]) (bytes:=32) A A A A Tryz.underlying106 F A A A A (aB 0 A) (aC bk (aC A bH)) AC (bK U [(Lt.mk a9 (ndL G ((rs.getD (((M:Int)-n.fst).toNat) crow0).xs)) tq.B)]) (dP ltC U (Lt.mk a9 (ndL G ((rs.getD (((M:Int)-n.fst).toNat) crow0).xs)) tq.B) _ A) (fun _=>A) ?_
 intro cd
 refine aN A (fY 2 A A A) (eE (i:=6) A (fun ce=>?_))
 refine gB (i:=9) (cs':=#[jI n.ins,.slice none 0 0,cd,.slice none 0 0]) A A A A A A ce A A A A (cP (eB (cN 1 A (aN A (eY A A A) (eS 1 A ?_)))))
 refine bN 14 [13,12,11,10,9,8,7,6,5,1,4] A A V ?_
 refine dN 2 A ?_
 exact dH (M+1) (Z.set M (n.fst+(U.length:Int))) (U++[(Lt.mk a9 (ndL G ((rs.getD (((M:Int)-n.fst).toNat) crow0).xs)) tq.B)]) (cd,[bigE a2.2,rowE 3 1 a9 ((ndL G ((rs.getD (((M:Int)-n.fst).toNat) crow0).xs)).length) ((ndL G ((rs.getD (((M:Int)-n.fst).toNat) crow0).xs)).map (Value.int .i64))]) ⟨O,by rw[length_set];exact az,by rw[length_append,length_singleton];omega,ai.app (Eg df (by rw[dg,qM]) (by rw[qM];exact ap.len) (Bn a8 aa b6)),(by rw[length_append,length_singleton];exact a8.up (Nat.le_succ _)),(by rw[length_append,length_singleton];exact b9.put O (Nat.le_succ _) ⟨O,O⟩),fun w hw=>(aj w (bF hw eG)).app (cI (bF hw (fW eG)))⟩ O (bV rfl) (cZ rfl)
 refine dL (aV A (aG (cN 1 A ?_)))
 refine fJ A A A A A A (fun dj=>?_) (fun dj=>?_)
 refine dL (aR A (cN 1 A ?_))
 refine cH A (aH (z:=jI 0) (s:=1) (cs:=(mI [(M:Int)])) A z8 A V A F A) ?_
 intro ar
 refine aN A (fY 0 A A A) (gB (i:=1) (cs':=#[.slice (some ⟨ar,0,none⟩) 1 1,jI 1]) A A A A A A A A A A A ?_)
 refine dL (bP (aN A (fY 2 A A A) (aN A (bJ A A A (bA 7 A A)) (aN A (aP (cs:=[.slice (some ⟨ar,0,none⟩) 1 1,jI 1]) A A A A A (aM 1 A 0 A)) ?_))))
 refine cH A (aH (z:=.agg #[.slice none 0 0,jI 0]) (s:=2) (cs:=[.slice (some ⟨ar,0,none⟩) 1 1,jI 1]) A Tryz.underlying106 A V A F A) ?_
 intro fh
 refine bT (i:=5) (z:=.agg #[.slice none 0 0,jI 0]) (bytes:=32) A A A A Tryz.underlying106 F A A A A (aB 0 A) AK AC (bK U [(Lt.mk (.slice (some ⟨ar,0,none⟩) 1 1) ([(M:Int)]) 1)]) (dP ltC U (Lt.mk (.slice (some ⟨ar,0,none⟩) 1 1) ([(M:Int)]) 1) _ A) (fun _=>A) ?_
 intro cf
 refine aN A (fY 2 A A A) (eE (i:=5) A (fun cg=>?_))
 refine gB (i:=8) (cs':=#[jI n.ins,.slice none 0 0,cf,.slice none 0 0]) A A A A A A cg A A A A (cP (eB (cN 1 A (aN A (eY A A A) (eS 1 A ?_)))))
 refine bN 13 [12,11,10,9,8,7,6,5,4,1,3] A A V ?_
 refine dN 2 A ?_
 exact dH (M+1) (Z.set M (n.fst+(U.length:Int))) (U++[(Lt.mk (.slice (some ⟨ar,0,none⟩) 1 1) ([(M:Int)]) 1)]) (cf,[bigE a2.2,rowE 3 1 (.slice (some ⟨ar,0,none⟩) 1 1) 1 (mI [(M:Int)])]) ⟨O,by rw[length_set];exact az,by rw[length_append,length_singleton];omega,ai.app (LutP.one O O),(by rw[length_append,length_singleton];exact a8.up (Nat.le_succ _)),(by rw[length_append,length_singleton];exact b9.put O (Nat.le_succ _) ⟨O,O⟩),fun w hw=>(aj w (bF hw eG)).app (cI (bF hw (fW eG)))⟩ O (bV rfl) (cZ rfl)
 refine dL (aV A (eC (bP (aN A (fY 2 A A A) (aN A (bJ A A A (bA 6 A A)) (aN A (aP (cs:=[.slice none 0 0,jI 1]) A A A A A (aM 0 A 0 A)) ?_))))))
 refine cH A (aH (z:=.agg #[.slice none 0 0,jI 0]) (s:=2) (cs:=[.slice none 0 0,jI 1]) A Tryz.underlying106 A V A F A) ?_
 intro fi
 refine bT (i:=4) (z:=.agg #[.slice none 0 0,jI 0]) (bytes:=32) A A A A Tryz.underlying106 F A A A A (aB 0 A) AK AC (bK U [(Lt.mk (.slice none 0 0) ([]) 1)]) (dP ltC U (Lt.mk (.slice none 0 0) ([]) 1) _ A) (fun _=>A) ?_
 intro ch
 refine aN A (fY 2 A A A) (eE (i:=4) A (fun ci=>?_))
 refine gB (i:=7) (cs':=#[jI n.ins,.slice none 0 0,ch,.slice none 0 0]) A A A A A A ci A A A A (cP (eB (cN 1 A (aN A (eY A A A) (eS 1 A ?_)))))
 refine bN 12 [11,10,9,8,7,6,5,4,3,2] A A V ?_
 refine dN 1 A ?_
 exact dH (M+1) (Z.set M (n.fst+(U.length:Int))) (U++[(Lt.mk (.slice none 0 0) ([]) 1)]) (ch,[bigE a2.2]) ⟨O,by rw[length_set];exact az,by rw[length_append,length_singleton];omega,ai.app (LutP.none),(by rw[length_append,length_singleton];exact a8.up (Nat.le_succ _)),(by rw[length_append,length_singleton];exact b9.put O (Nat.le_succ _) ⟨O,O⟩),fun w hw=>(aj w (bF hw eG)).app (rS (w0:=w) (l:=[]) w (Mem.refl w))⟩ O (bV rfl) (cZ rfl)
 refine bG 1 A (aR A ?_)
 refine bW (dB ?_)
 refine aO (bB (cN 1 A (aN A (eY A A A) (eS 1 A ?_))))
 exact dH (M+1) Z U (a2.1,a2.2) ⟨O,az,O,ai,a8,b9.skip I,aj⟩ O (bV A) (cZ A)
 refine dL (aV A ?_)
 refine bW (fM ?_)
 refine aO (bB (aG (cF 1 A (bS ?_))))
 refine mS (α:=Nat) (β:=Value) (γ:=List Sq) (δ:=List HP) [0,1,2,4,5,6,7,8,9,10,14,15,16,27,42,69,114,124,166] A (fun X u5 ss ak=>[bigE ak,rS9 148 3 u5 ss sqC,rS9 157 2 a2.1 U ltC,rI9 3 (.slice (some ⟨ao,0,none⟩) ((replicate n.cnt.toNat (0:Int)).length) ((replicate n.cnt.toNat (0:Int)).length)) Z,rI9 3 a4.1.1 G,boxE af #[jI n.ins,u5,a2.1,.slice none 0 0] 108,rS9 4 1 (.slice (some ⟨g5,0,none⟩) ((replicate n.cnt.toNat bl0).length) ((replicate n.cnt.toNat bl0).length)) ng blC,rS9 4 1 (.slice (some ⟨g4,0,none⟩) ((replicate n.cnt.toNat bl0).length) ((replicate n.cnt.toNat bl0).length)) p2 blC,boxE b2 #[jI 0,.slice none 0 0,.slice none 0 0,.slice none 0 0] 108,nB9 b1 n]) (fun X u5 ss ak=>[(23,jI (X:Int))]) (fun X u5 ss ak=>X≤n.ss.length∧ss.length=X∧SqsN (n.fst+(U.length:Int)) ss∧∀w,(bigE ak).holds w→RdsLuts w U∧RdsSqs w ss) (fun X u5 ss ak=>n.ss.length-X) 0 _ [] _ ⟨Nat.zero_le _,A,SqsN.nil _,fun w hw=>⟨aj w hw,RdsSqs.nil w⟩⟩ (bV A) (cZ A) ?_
 intro X u5 ss ak cj
 obtain⟨fj,er,ck,b0⟩:=cj
 have bl:NosOk ng n.fst U.length Z.length Z:=by rw[show Z.length=M by omega];exact b9
 refine aG (aG (cN 1 A (aN A (fY 1 A A A) (aN A (bJ A A A (bA 9 A A)) (aN A (eV A A A (aE hr.sq)) ?_)))))
 refine aW A A A A A A (fun dk=>?_) (fun dk=>?_)
 refine dL (aR A (eC (jR ?_)))
 refine eI A 25 [0,1,2,3,4,5,6,7,8,9,10,11,12,13,14,15,16,17,18,19,20,21,22,23,24] (List.take 25 _) (List.drop 25 _) [[],[0],[],[2],[],[3,4],[5],[6],[],[8],[],[9,10],[11],[12],[],[],[],[16],[],[17,18],[19],[20],[14,15,21],[7,13,22],[22,23]] [225,226,227,228,229,230,231,232,233,234,235,236,237,238,239,240,241,242,243,244,245,246,247,248,249] (fun i_ ab K J=>match i_ with|0=>K=.pointer (some ⟨af,0+1,none⟩)∧J=[]|1=>K=u5∧J=[]|2=>K=.pointer (some ⟨b1,0+1,none⟩)∧J=[]|3=>K=n.sv∧J=[]|4=>K=jI (X:Int)∧J=[]|5=>K=elP n.sv ((X:Int).toNat*3)∧J=[]|6=>K=elP n.sv ((X:Int).toNat*3+0)∧J=[]|7=>K=jI ((n.ss.getD X sq0).kd)∧J=[]|8=>K=.pointer (some ⟨b1,0+1,none⟩)∧J=[]|9=>K=n.sv∧J=[]|10=>K=jI (X:Int)∧J=[]|11=>K=elP n.sv ((X:Int).toNat*3)∧J=[]|12=>K=elP n.sv ((X:Int).toNat*3+1)∧J=[]|13=>K=jI ((n.ss.getD X sq0).it)∧J=[]|14=>K=a4.1.1∧J=[]|15=>K=.slice (some ⟨ao,0,none⟩) ((replicate n.cnt.toNat (0:Int)).length) ((replicate n.cnt.toNat (0:Int)).length)∧J=[]|16=>K=.pointer (some ⟨b1,0+1,none⟩)∧J=[]|17=>K=n.sv∧J=[]|18=>K=jI (X:Int)∧J=[]|19=>K=elP n.sv ((X:Int).toNat*3)∧J=[]|20=>K=elP n.sv ((X:Int).toNat*3+2)∧J=[]|21=>K=(n.ss.getD X sq0).iv∧J=[]|22=>(fun v' post=>post=[rI9 3 v' ((rtL G Z ((n.ss.getD X sq0).xs)))]) K J|23=>K=.agg #[jI ((n.ss.getD X sq0).kd),jI ((n.ss.getD X sq0).it),(gV9 ab 2)]∧J=[]|24=>IsRow 148 3 1 ([jI ((n.ss.getD X sq0).kd),jI ((n.ss.getD X sq0).it),(gV9 ab 0)]) K J|_=>True) (take_append_drop 25 _).symm F F A A ?_ ?_
 refine⟨?_,?_,?_,?_,?_,?_,?_,?_,?_,?_,?_,?_,?_,?_,?_,?_,?_,?_,?_,?_,?_,?_,?_,?_,?_,trivial⟩
 intro vf E D
 exact fG A (aD [14] A) (aK (fY 1 A A A))
 intro vf E D
 have e0:=D 0 V
 exact eH A (aX 225 e0.1 (aA _)) (aK (bJ A A A (bA 5 A A)))
 intro vf E D
 exact fG A (aD [2] A) (aK (fY 1 A A A))
 intro vf E D
 have e2:=D 2 V
 exact eH A (aX 227 e2.1 (aA _)) (aK (bJ A A A (bA 9 A A)))
 intro vf E D
 exact fG A (aD [23] A) (aK (aU A))
 intro vf E D
 have e3:=D 3 V
 have e4:=D 4 V
 exact eH A (aX 228 e3.1 (aX 229 e4.1 (aA _))) (aK (cV 3 A A A A (aE hr.sq)))
 intro vf E D
 have e5:=D 5 V
 exact eH A (aX 230 e5.1 (aA _)) (aK (bR (k0:=0) A A A (aE hr.sq) O))
 intro vf E D
 have e6:=D 6 V
 exact eH A (aX 231 e6.1 (aA _)) (aK (aL (u:=jI ((n.ss.getD X sq0).kd)) A A A (aE hr.sq) ((dC sqC 3 (fun _=>A) n.ss sq0 (show X<_ by omega) V).trans A)))
 intro vf E D
 exact fG A (aD [2] A) (aK (fY 1 A A A))
 intro vf E D
 have e8:=D 8 V
 exact eH A (aX 233 e8.1 (aA _)) (aK (bJ A A A (bA 9 A A)))
 intro vf E D
 exact fG A (aD [23] A) (aK (aU A))
 intro vf E D
 have e9:=D 9 V
 have ah:=D 10 V
 exact eH A (aX 234 e9.1 (aX 235 ah.1 (aA _))) (aK (cV 3 A A A A (aE hr.sq)))
 intro vf E D
 have bf:=D 11 V
 exact eH A (aX 236 bf.1 (aA _)) (aK (bR (k0:=1) A A A (aE hr.sq) O))
 intro vf E D
 have dl:=D 12 V
 exact eH A (aX 237 dl.1 (aA _)) (aK (aL (u:=jI ((n.ss.getD X sq0).it)) A A A (aE hr.sq) ((dC sqC 3 (fun _=>A) n.ss sq0 (show X<_ by omega) V).trans A)))
 intro vf E D
 exact fG A (aD [15] A) (aK (aU A))
 intro vf E D
 exact fG A (aD [16] A) (aK (aU A))
 intro vf E D
 exact fG A (aD [2] A) (aK (fY 1 A A A))
 intro vf E D
 have dm:=D 16 V
 exact eH A (aX 241 dm.1 (aA _)) (aK (bJ A A A (bA 9 A A)))
 intro vf E D
 exact fG A (aD [23] A) (aK (aU A))
 intro vf E D
 have dn:=D 17 V
 have dp:=D 18 V
 exact eH A (aX 242 dn.1 (aX 243 dp.1 (aA _))) (aK (cV 3 A A A A (aE hr.sq)))
 intro vf E D
 have dq:=D 19 V
 exact eH A (aX 244 dq.1 (aA _)) (aK (bR (k0:=2) A A A (aE hr.sq) O))
 intro vf E D
 have dr:=D 20 V
 exact eH A (aX 245 dr.1 (aA _)) (aK (aL (u:=(n.ss.getD X sq0).iv) A A A (aE hr.sq) ((dC sqC 3 (fun _=>A) n.ss sq0 (show X<_ by omega) V).trans A)))
 intro vf E D
 have ds:=D 14 V
 have dt:=D 15 V
 have du:=D 21 V
 exact eH A (aX 239 ds.1 (aX 240 dt.1 (aX 246 du.1 (aA _)))) (aF A A (fun w hm=>qS G Z ((n.ss.getD X sq0).xs) _ _ _ w ((aB 4 A) w hm) ((aB 3 A) w hm) ((aE (hr.at (k:=X) O)) w hm) (fun k hk=>by have h9:=hn.xs _ (dJ (d:=sq0) (show X<n.ss.length by omega)) _ (dJ (d:=(0:Int)) hk);unfold LtOk at h9;omega) (by have h8:=(hn.sq _ (dJ (d:=sq0) (show X<n.ss.length by omega))).len;omega) O))
 intro vf E D
 have e7:=D 7 V
 have cl:=D 13 V
 obtain⟨ae,a3⟩:=dU (vf 22)
 obtain⟨cm,a6⟩:=dU (E 22)
 have al:=D 22 V
 rw[a3,a6] at al
 subst al
 refine Or.inl ⟨A,?_⟩
 exact bQ (aX 232 e7.1 (aX 238 cl.1 (aX 247 a3 (aA _)))) (by simp only[a6,a3,e7.2,cl.2,fS]<;>rfl) (dM (aK (kG (cs:=#[jI ((n.ss.getD X sq0).kd),jI ((n.ss.getD X sq0).it),ae]) A A (fun w hm=>vQ ((n.ss.getD X sq0).kd) ((n.ss.getD X sq0).it) ae ((aB 0 A w hm).one)))) (fun _ _ h=>⟨h.1.trans (by show _=(.agg #[jI ((n.ss.getD X sq0).kd),jI ((n.ss.getD X sq0).it),(vf 22)]:Value);first|(rw[a3];done)|(rw[a3];rfl)),h.2⟩))
 intro vf E D
 obtain⟨ae,a3⟩:=dU (vf 22)
 obtain⟨cm,a6⟩:=dU (E 22)
 have al:=D 22 V
 rw[a3,a6] at al
 subst al
 have bt:(vf 23)=.agg #[jI ((n.ss.getD X sq0).kd),jI ((n.ss.getD X sq0).it),(vf 22)]∧(E 23)=[]:=D 23 V
 rw[a3] at bt
 refine Or.inl ⟨A,?_⟩
 exact bQ (aX 248 bt.1 (aA _)) (by simp only[a6,a3,bt.2,fS]<;>rfl) (dM (aH (z:=.agg #[jI 0,jI 0,.slice none 0 0]) (s:=3) (cs:=[jI ((n.ss.getD X sq0).kd),jI ((n.ss.getD X sq0).it),ae]) A Tryz.underlying105 A V A F A) (fun K J h=>by show IsRow 148 3 1 ([jI ((n.ss.getD X sq0).kd),jI ((n.ss.getD X sq0).it),(vf 22)]) K J;rw[a3];exact h))
 intro vf E D
 have e1:=D 1 V
 obtain⟨ae,a3⟩:=dU (vf 22)
 obtain⟨cm,a6⟩:=dU (E 22)
 have al:=D 22 V
 rw[a3,a6] at al
 subst al
 have cn:IsRow 148 3 1 ([jI ((n.ss.getD X sq0).kd),jI ((n.ss.getD X sq0).it),(vf 22)]) (vf 24) (E 24):=D 24 V
 rw[a3] at cn
 obtain⟨fk,bm,co⟩:=cn
 have q0:=D 0 V
 have q1:=D 1 V
 have q2:=D 2 V
 have q3:=D 3 V
 have q4:=D 4 V
 have q5:=D 5 V
 have q6:=D 6 V
 have q7:=D 7 V
 have q8:=D 8 V
 have q9:=D 9 V
 have b8:=D 10 V
 have dv:=D 11 V
 have dw:=D 12 V
 have dx:=D 13 V
 have dy:=D 14 V
 have dz:=D 15 V
 have ea:=D 16 V
 have eb:=D 17 V
 have ed:=D 18 V
 have ee:=D 19 V
 have ef:=D 20 V
 have eg:=D 21 V
 have eh:=D 23 V
 refine cL (bE [222,166,124,114,69,42,27,23,16,15,14,10,9,8,7,6,5,4,2,1,0] _ (aX 226 e1.1 (aX 249 bm (aA _))) A) (by simp only[a6,a3,co,bm,q0.2,q1.2,q2.2,q3.2,q4.2,q5.2,q6.2,q7.2,q8.2,q9.2,b8.2,dv.2,dw.2,dx.2,dy.2,dz.2,ea.2,eb.2,ed.2,ee.2,ef.2,eg.2,eh.2,fS]<;>rfl) ?_
 simp only[drop_succ_cons,drop_zero]
 refine eE (i:=0) A (fun cp=>?_)
 refine bT (i:=3) (z:=.agg #[jI 0,jI 0,.slice none 0 0]) (bytes:=40) A A A A Tryz.underlying105 F A A A A (aB 1 A) (aC A (aC A (aC cp bH))) AC (bK ss [(Sq.mk ((n.ss.getD X sq0).kd) ((n.ss.getD X sq0).it) ae (rtL G Z ((n.ss.getD X sq0).xs)))]) (dP sqC ss (Sq.mk ((n.ss.getD X sq0).kd) ((n.ss.getD X sq0).it) ae (rtL G Z ((n.ss.getD X sq0).xs))) _ A) (fun _=>A) ?_
 intro cq
 refine aN A (fY 1 A A A) (eE (i:=3) A (fun cr=>?_))
 refine gB (i:=7) (cs':=#[jI n.ins,cq,a2.1,.slice none 0 0]) A A A A A A cr A A A A (cP (eB (cN 1 A (aN A (eY A A A) (eS 1 A ?_)))))
 refine bN 12 [11,10,9,8,7,6,5,4,3,0,2] A A V ?_
 refine dN 2 A ?_
 exact dH (X+1) cq (ss++[(Sq.mk ((n.ss.getD X sq0).kd) ((n.ss.getD X sq0).it) ae (rtL G Z ((n.ss.getD X sq0).xs)))]) [bigE ak,rowE 3 1 ae ((rtL G Z ((n.ss.getD X sq0).xs)).length) (mI (rtL G Z ((n.ss.getD X sq0).xs)))] ⟨O,by rw[length_append,length_singleton];omega,ck.app (Gx (hn.sq _ (dJ (d:=sq0) O)) (xZ _ _ _) _) (Bm a8 bl (c:=n.cnt) O O (fun l hl=>⟨hn.xs _ (dJ (d:=sq0) O) l hl,b4.all l (rts_sq (dJ (d:=sq0) O) hl)⟩)),fun w hw=>⟨(b0 w (bF hw eG)).1,(b0 w (bF hw eG)).2.app (cI (bF hw (fW eG)))⟩⟩ O (bV rfl) (cZ rfl)
 refine dL (aV A ?_)
 refine bW (fM ?_)
 refine aO (bB (aG (cN 2 A (aN A (fY 3 A A A) (aN A (bJ A A A (bA 9 A A)) ?_)))))
 refine fF A A A (aF A A (fun w hm=>qS G Z n.os _ _ _ w ((aB 4 A) w hm) ((aB 3 A) w hm) ((aE hr.ou) w hm) (fun k hk=>by have h9:=hn.ou _ (dJ (d:=(0:Int)) hk);unfold LtOk at h9;omega) O O)) ?_
 intro am fl ei
 subst ei
 refine aN A (fY 3 A A A) (eE (i:=0) A (fun bn=>?_))
 refine gB (i:=6) (cs':=#[jI n.ins,u5,a2.1,am]) A A A A A A bn A A A A (dL (dW (aN A (aP (cs:=[jI n.ins,u5,a2.1,am]) A A A A A (aM 6 A 0 A)) ?_)))
 refine eE (i:=3) A (fun ct=>?_)
 refine eE (i:=2) A (fun cu=>?_)
 refine cA (cs':=#[jI n.ins,u5,a2.1,am]) (i:=9) (off:=0) (us:=[jI n.ins,u5,a2.1,am]) A A A A A A A (aC A (aC cu (aC ct (aC bn bH)))) A A A (bG 1 A ?_)
 refine cW (gC (fun w hm=>(aB 2 A w hm).one) (fun bu=>?_))
 refine gC (fun w hm=>(aB 3 A w hm).one) (fun ej=>?_)
 refine gC (fun w hm=>(aB 0 A w hm).one) (fun ek=>?_)
 refine bN 11 [9,1,0,3,2] A A V ?_
 refine dN 4 A ?_
 exact eQ (rs:=[.cell 4 108,.tmp 5]) (vs:=[.agg #[jI n.ins,u5,a2.1,am],.bool true]) (post:=[bigE [rS9 148 3 u5 ss sqC,rS9 157 2 a2.1 U ltC,rowE 3 1 am ((rtL G Z n.os).length) (mI (rtL G Z n.os)),bigE ak]]) A ⟨⟨b2,0,[jI n.ins,u5,a2.1,am],A,A,F,F,aM 1 A 0 A⟩,A,trivial⟩ A (eA [0] A) ⟨_,(Ln.mk n.ins u5 a2.1 am ss U (rtL G Z n.os)),true,A,A,fun w hw=>⟨⟨cI (bF hw eG),(b0 w (bF hw (fW (fW (fW eG))))).2⟩,⟨cI (bF hw (fW eG)),(b0 w (bF hw (fW (fW (fW eG))))).1⟩,cI (bF hw (fW (fW eG)))⟩,⟨bu,ej,ek⟩,ln_mk hn O O (by rw[xZ];exact hn.o1) (Bm a8 bl (c:=n.cnt) O O (fun l hl=>⟨hn.ou l hl,b4.all l (rts_os hl)⟩)) ck ai⟩
 refine bG 1 A (aR A (dW (aN A (dG (cs:=#[jI 0,.slice none 0 0,.slice none 0 0,.slice none 0 0]) A A A) ?_)))
 refine cA (cs':=#[jI 0,.slice none 0 0,.slice none 0 0,.slice none 0 0]) (i:=0) (off:=0) (us:=[jI 0,.slice none 0 0,.slice none 0 0,.slice none 0 0]) A A A A A A A (aC A (aC A (aC A (aC A bH)))) A A A (bG 1 A ?_)
 refine cW (cK ?_)
 refine bN 2 [1,0] A A V ?_
 refine fH _ hF ?_
 exact eQ (rs:=[.cell 4 108,.tmp 5]) (vs:=[.agg #[jI 0,.slice none 0 0,.slice none 0 0,.slice none 0 0],.bool false]) (post:=[bigE ([]:List HP)]) A ⟨⟨b2,0,[jI 0,.slice none 0 0,.slice none 0 0,.slice none 0 0],A,A,F,F,aM 1 A 0 A⟩,A,trivial⟩ A (eA [0] A) ⟨_,ln00,false,A,A,fun w hw=>⟨⟨rS (w0:=w) (l:=[]) w (Mem.refl w),fun r hr=>by cases hr⟩,⟨rS (w0:=w) (l:=[]) w (Mem.refl w),fun r hr=>by cases hr⟩,rS (w0:=w) (l:=[]) w (Mem.refl w)⟩,⟨A,A,A⟩,Ki⟩
open Go.RowKit
theorem Fh (iv sv av ov:Value):NtOk (Nt.mk 2 sv av ov [Sq.mk 0 1 iv [9]] [An.mk 2 6] [8,7]):=by
  have hc:(Nt.mk 2 sv av ov [Sq.mk 0 1 iv [9]] [An.mk 2 6] [8,7]).cnt=5:=rfl
  have hf:(Nt.mk 2 sv av ov [Sq.mk 0 1 iv [9]] [An.mk 2 6] [8,7]).fst=4:=rfl
  refine⟨(show(0:Int)≤2 by decide),(show(2:Int)≤20 by decide),by simp,by simp,by simp,fun s hs=>?_,fun s hs x hx=>?_,fun k hk=>?_,fun x hx=>?_⟩
  · obtain rfl : s = Sq.mk 0 1 iv [9] := List.mem_singleton.1 hs
    exact⟨.inl ⟨rfl,⟨(show(0:Int)≤1 by decide),(show(1:Int)≤1 by decide)⟩,rfl⟩⟩
  · obtain rfl : s = Sq.mk 0 1 iv [9] := List.mem_singleton.1 hs
    obtain rfl:x=9:=List.mem_singleton.1 hx
    rw[hc];exact⟨by decide,by decide⟩
  · have : k = 0 := by have : k < 1 := hk; omega
    subst this
    rw[hf];exact⟨⟨(show(0:Int)≤2 by decide),(show(2:Int)<2*(4+((0:Nat):Int)) by decide)⟩,⟨(show(0:Int)≤6 by decide),(show(6:Int)<2*(4+((0:Nat):Int)) by decide)⟩⟩
  · rw [hc]
    rcases List.mem_cons.1 hx with rfl|hx
    · exact⟨by decide,by decide⟩
    · obtain rfl : x = 7 := List.mem_singleton.1 hx
      exact⟨by decide,by decide⟩
theorem wE  (w:World)  :
   Calls Tryz.prog 109 #[] w (Ret w (fun G J=>∃(ps:List HP) (m:Nt),G=m.agg∧J=[bigE ps]∧(∀w,(bigE ps).holds w→RdsNt w m)∧(m.sv.oneCell'=true∧m.av.oneCell'=true∧m.ov.oneCell'=true)∧NtOk m∧m.gs.length≤30)):=by
 refine aY (N:=8) (args:=[]) Tryz.func109 A A (kR _ [] A (dW ?_))
 refine cU A (bY (z:=.agg #[jI 0,.slice none 0 0,.slice none 0 0,.slice none 0 0]) A A) fun K=>go ?_
 refine cH A (aH (z:=jI 0) (s:=1) (cs:=(mI [9])) A z8 A V A F A) fun D=>?_
 refine aN A (dG (cs:=#[jI 0,jI 1,.slice (some ⟨D,0,none⟩) 1 1]) A A A) (cH A (aH (z:=.agg #[jI 0,jI 0,.slice none 0 0]) (s:=3) (cs:=[jI 0,jI 1,.slice (some ⟨D,0,none⟩) 1 1]) A Tryz.underlying105 A V A F A) fun e=>?_)
 refine aN A (dG (cs:=#[jI 2,jI 6]) A A A) (cH A (aH (z:=.agg #[jI 0,jI 0]) (s:=2) (cs:=(mI [2,6])) A Tryz.underlying123 A V A F A) fun h=>?_)
 refine cH A (aH (z:=jI 0) (s:=1) (cs:=(mI [8,7])) A z8 A V A F A) fun B=>?_
 refine aN A (dG (cs:=#[jI 2,.slice (some ⟨e,0,none⟩) 1 1,.slice (some ⟨h,0,none⟩) 1 1,.slice (some ⟨B,0,none⟩) 2 2]) A A A) (cA (cs':=#[jI 2,.slice (some ⟨e,0,none⟩) 1 1,.slice (some ⟨h,0,none⟩) 1 1,.slice (some ⟨B,0,none⟩) 2 2]) (i:=4) (off:=0) (us:=[jI 2,.slice (some ⟨e,0,none⟩) 1 1,.slice (some ⟨h,0,none⟩) 1 1,.slice (some ⟨B,0,none⟩) 2 2]) A A A A A A A (aC A (aC A (aC A (aC A bH)))) A A A (go ?_))
 refine bN 5 [4,0,1,3,2] A A V ?_
 refine dN 4 A ?_
 exact eQ (rs:=[.cell 0 125]) (vs:=[.agg #[jI 2,.slice (some ⟨e,0,none⟩) 1 1,.slice (some ⟨h,0,none⟩) 1 1,.slice (some ⟨B,0,none⟩) 2 2]]) (post:=[bigE [rowE 148 3 (.slice (some ⟨e,0,none⟩) 1 1) 1 ([jI 0,jI 1,.slice (some ⟨D,0,none⟩) 1 1]),rowE 3 1 (.slice (some ⟨D,0,none⟩) 1 1) 1 (mI [9]),rowE 145 2 (.slice (some ⟨h,0,none⟩) 1 1) 1 (mI [2,6]),rowE 3 1 (.slice (some ⟨B,0,none⟩) 2 2) 2 (mI [8,7])]]) A ⟨⟨K,0,[jI 2,.slice (some ⟨e,0,none⟩) 1 1,.slice (some ⟨h,0,none⟩) 1 1,.slice (some ⟨B,0,none⟩) 2 2],A,A,F,F,aM 1 A 0 A⟩,trivial⟩ A (eA [0] A) ⟨_,Nt.mk 2 (.slice (some ⟨e,0,none⟩) 1 1) (.slice (some ⟨h,0,none⟩) 1 1) (.slice (some ⟨B,0,none⟩) 2 2) [Sq.mk 0 1 (.slice (some ⟨D,0,none⟩) 1 1) [9]] [An.mk 2 6] [8,7],A,A,fun w E=>⟨cI (bF E eG),(fun q M=>by obtain rfl:=List.mem_singleton.1 M;exact cI (bF E (fW eG))),cI (bF E (fW (fW eG))),cI (bF E (fW (fW (fW eG))))⟩,⟨A,A,A⟩,Fh _ _ _ _,AI⟩
def tL0 (v:Value):Int:=match v with | .tuple #[.agg #[.int _ i,_,_,_],_]=>i|_=>0
def tLk (k:Nat) (v:Value):Value:=match v with | .tuple #[.agg xs,_]=>xs.getD k undef|_=>undef
def tLb (v:Value):Bool:=match v with | .tuple #[_,.bool b]=>b|_=>false
theorem ln_nil:LnOk (Ln.mk 0 (.slice none 0 0) (.slice none 0 0) (.slice none 0 0) [] [] []):=⟨⟨⟨(show(0:Int)≤0 by decide),(show(0:Int)≤20 by decide)⟩,Nat.zero_le _,Nat.zero_le _,Nat.zero_le _⟩,fun j h=>absurd h AI,fun k e=>absurd e AI,fun k e=>absurd e AI⟩
theorem tG (w:World) (s:Nat):RdsW w (.slice none 0 0) s 0 []:=⟨_,_,rfl,AI,⟨V,V⟩,fun h=>absurd h V⟩
theorem Cu (w:World):RdsLn w (Ln.mk 0 (.slice none 0 0) (.slice none 0 0) (.slice none 0 0) [] [] []):=⟨⟨tG w 3,fun r e=>by cases e⟩,⟨tG w 2,fun r e=>by cases e⟩,tG w 1⟩
theorem sB {a b c:Int}(e:0≤a∧a<2) (h:0≤b∧b<2) (B:0≤c∧c<3):devB (Dev.mk (4+a) (4+b) (2+c) 1)=true:=(dI _).2 ⟨⟨by show 3≤4+a;omega,by show 4+a≤6;omega⟩,⟨by show 3≤4+b;omega,by show 4+b≤6;omega⟩,⟨by show 1≤2+c;omega,by show 2+c≤4;omega⟩,.inr ⟨(show(1:Int)≤1 by decide),by show(1:Int)≤4+a-2;omega⟩⟩
theorem Bd (d:Dev):Fits d []:=fun c=>Nat.zero_le _
theorem Ap (g:Nat) (a:Option Addr) (J K:Nat) (z:List Int) (w0:World) (l:List HP) (w:World) (bq:Mem w0 (curE g a J K::l) w) (hb:BRow .u8 w0 a J K z) :
   Calls Tryz.prog 96 #[.pointer (some ⟨g,0,none⟩)] w (fun e_ w_=>∃v_ M,e_=.returned v_∧(fun u_ M=>∃(d:Dev) (n:Ln) (ps:List HP) (bs:List Bk) (bv:Value),u_=.tuple #[.agg #[.int .i64 d.W,.int .i64 d.H,.int .i64 d.T,.int .i64 d.R],n.agg,bv]∧M=bigE [curE g a J K,bigE ps]∧(∀w,(bigE ps).holds w→RdsLn w n∧RdsBk w bv bs)∧(n.sv.oneCell'=true∧n.lv.oneCell'=true∧n.ov.oneCell'=true)∧bv.oneCell'=true∧LnOk n∧BsOk bs∧bs.length≤64∧devB d=true∧Fits d (bs.map Bk.kd)) v_ M∧Mem w0 (M::l) w_):=by
 refine gE (N:=62) (args:=[pI g]) Tryz.func96 A A bq (dW ?_)
 refine cU A (bY (z:=.agg #[jI 0,jI 0,jI 0,jI 0]) A A) ?_
 intro b1
 refine cU A (bY (z:=.agg #[jI 0,.slice none 0 0,.slice none 0 0,.slice none 0 0]) A A) ?_
 intro b2
 refine bG 1 A (aG (cN 1 A ?_))
 refine cR (R:=(fun u_ M=>(∃x_:Int,u_=jI x_∧0≤x_∧x_<2)∧M=curE g a J K)) 2 A A A A A (fun l' w hm=>dT g a J K z 2 _ _ _ hm hb AE) ?_
 intro v3 p4 R5
 obtain⟨⟨Y,rfl,cn,co⟩,rfl⟩:=R5
 refine dO (l':=(boxE b2 #[jI 0,.slice none 0 0,.slice none 0 0,.slice none 0 0] 108::boxE b1 #[jI 0,jI 0,jI 0,jI 0] 25::curE g a J K::l)) A ?_
 refine aN A (eY A A A) (aS 1 A ?_)
 refine cR (R:=(fun u_ M=>(∃x_:Int,u_=jI x_∧0≤x_∧x_<2)∧M=curE g a J K)) 2 A A A A A (fun l' w hm=>dT g a J K z 2 _ _ _ hm hb AE) ?_
 intro v6 p7 R8
 obtain⟨⟨Z,rfl,cp,cq⟩,rfl⟩:=R8
 refine dO (l':=(boxE b2 #[jI 0,.slice none 0 0,.slice none 0 0,.slice none 0 0] 108::boxE b1 #[jI 0,jI 0,jI 0,jI 0] 25::curE g a J K::l)) A ?_
 refine aN A (eY A A A) (aS 1 A ?_)
 refine cR (R:=(fun u_ M=>(∃x_:Int,u_=jI x_∧0≤x_∧x_<3)∧M=curE g a J K)) 2 A A A A A (fun l' w hm=>dT g a J K z 3 _ _ _ hm hb AE) ?_
 intro v9 cr br
 obtain⟨⟨B,rfl,cf,cg⟩,rfl⟩:=br
 refine dO (l':=(boxE b2 #[jI 0,.slice none 0 0,.slice none 0 0,.slice none 0 0] 108::boxE b1 #[jI 0,jI 0,jI 0,jI 0] 25::curE g a J K::l)) A ?_
 refine aN A (eY A A A) (aN A (dG (cs:=#[jI (4+Y),jI (4+Z),jI (2+B),jI 1]) A A A) ?_)
 refine cU A (bY (z:=.agg #[jI 0,jI 0,jI 0,jI 0]) A A) ?_
 intro a4
 refine cA (cs':=#[jI (4+Y),jI (4+Z),jI (2+B),jI 1]) (i:=0) (off:=0) (us:=[jI (4+Y),jI (4+Z),jI (2+B),jI 1]) A A A A A A A (aC A (aC A (aC A (aC A bH)))) A A A (dL (kE ?_))
 have a8:devB (Dev.mk (4+Y) (4+Z) (2+B) 1)=true:=sB ⟨O,O⟩ ⟨O,O⟩ ⟨O,O⟩
 refine bG 1 A (bS ?_)
 refine lC (α:=Nat) [0,2,3,4,5] A (fun t=>(boxE a4 #[jI (4+Y),jI (4+Z),jI (2+B),jI 1] 25::boxE b2 #[jI 0,.slice none 0 0,.slice none 0 0,.slice none 0 0] 108::boxE b1 #[jI 0,jI 0,jI 0,jI 0] 25::curE g a J K::l)) (fun t=>[(6,jI (t:Int))]) (fun t=>t≤4) (fun t=>4-t) 0 (Nat.zero_le _) (bV A) (.refl _) ?_
 intro t bd
 have ht:=bd
 refine aG (aG (cN 1 A ?_))
 refine aW A A A A A A (fun bt=>?_) (fun bt=>?_)
 refine dL (aR A (eC (jR (aG (cN 1 A ?_)))))
 refine cR (R:=(fun u_ M=>∃n:Nt,u_=n.agg∧M=bigE [curE g a J K,ntE n]∧(n.sv.oneCell'=true∧n.av.oneCell'=true∧n.ov.oneCell'=true)∧NtOk n∧n.ins≤3∧(n.ss.length:Int)≤2∧(n.gs.length:Int)≤8∧1≤n.os.length)) 3 A A A A A (fun l' w hm=>yM g a J K z 3 2 8 _ _ _ hm hb V V V) ?_
 intro ct cu bu
 obtain⟨n,rfl,rfl,⟨cv,cw,cx⟩,hn,ch,ci,cj,ck⟩:=bu
 refine dO (l':=(boxE a4 #[jI (4+Y),jI (4+Z),jI (2+B),jI 1] 25::boxE b2 #[jI 0,.slice none 0 0,.slice none 0 0,.slice none 0 0] 108::boxE b1 #[jI 0,jI 0,jI 0,jI 0] 25::bigE [curE g a J K,ntE n]::l)) A ?_
 refine kQ 4 [2,1,0,3] A A V ?_
 refine jZ (curE g a J K::ntE n::boxE a4 #[jI (4+Y),jI (4+Z),jI (2+B),jI 1] 25::boxE b2 #[jI 0,.slice none 0 0,.slice none 0 0,.slice none 0 0] 108::boxE b1 #[jI 0,jI 0,jI 0,jI 0] 25::l) gN ?_
 refine fF A A A (aF A A (fun w hm=>Jf n w (nt_rds 1 A w hm) hn)) ?_
 intro cy cz bw
 obtain⟨qs,m,rfl,rfl,ax,⟨b6,b7,b8⟩,ag,d0,d1⟩:=bw
 refine cU A (bY (z:=.agg #[jI 0,.slice none 0 0,.slice none 0 0,.slice none 0 0]) A A) ?_
 intro a9
 refine cA (cs':=#[jI m.ins,m.sv,m.av,m.ov]) (i:=0) (off:=0) (us:=[jI m.ins,m.sv,m.av,m.ov]) A A A A A A A (aC A (aC b6 (aC b7 (aC b8 bH)))) A A A (dL ?_)
 refine kX (α:=Nt) (β:=List HP) (fun m qs=>(nB9 a9 m::bigE qs::curE g a J K::boxE a4 #[jI (4+Y),jI (4+Z),jI (2+B),jI 1] 25::boxE b2 #[jI 0,.slice none 0 0,.slice none 0 0,.slice none 0 0] 108::boxE b1 #[jI 0,jI 0,jI 0,jI 0] 25::l)) (fun m qs=>[(0,pI g),(2,pI b1),(3,pI b2),(4,.slice none 0 0),(5,pI a4),(6,jI (t:Int)),(7,pI a9),(23,.bool true)]) (fun m qs=>(∀w,(bigE qs).holds w→RdsNt w m)∧(m.sv.oneCell'=true∧m.av.oneCell'=true∧m.ov.oneCell'=true)∧NtOk m∧m.gs.length≤30) ?_ ?_
 refine aG (cN 1 A ?_)
 refine bZ A A A A A A (fun bx=>?_) (fun bx=>?_)
 refine dL (aR A (bP ?_))
 refine fF A A A (aF A A (fun w hm=>wE w)) ?_
 intro d2 d3 bz
 obtain⟨c0,m2,rfl,rfl,be,⟨b0,b3,b4⟩,b9,bf⟩:=bz
 refine cA (cs':=#[jI m2.ins,m2.sv,m2.av,m2.ov]) (i:=1) (off:=0) (us:=[jI m2.ins,m2.sv,m2.av,m2.ov]) A A A A A A A (aC A (aC b0 (aC b3 (aC b4 bH)))) A A A (cP ?_)
 refine bN 8 [7,6,5,3,0,1] A A V ?_
 exact eU m2 c0 ⟨be,⟨b0,b3,b4⟩,b9,bf⟩ (bV A) (.refl _)
 refine dL (jQ A ?_)
 exact eU m qs ⟨ax,⟨b6,b7,b8⟩,ag,O⟩ (bV A) (.cons_cons _ (.cons_cons _ (.cons_cons _ (.cons _ (.refl _)))))
 intro m qs bg
 obtain⟨ax,⟨b6,b7,b8⟩,ag,cl⟩:=bg
 refine aG ?_
 refine gZ (l:=(nB9 a9 m::bigE qs::curE g a J K::boxE a4 #[jI (4+Y),jI (4+Z),jI (2+B),jI 1] 25::boxE b2 #[jI 0,.slice none 0 0,.slice none 0 0,.slice none 0 0] 108::boxE b1 #[jI 0,jI 0,jI 0,jI 0] 25::l)) A 9 [0,1,2,3,4,5,6,7,8] (List.take 9 _) (List.drop 9 _) [[],[],[1],[0,2],[3],[3,4],[3,4],[],[3,5,7]] [some 33,some 34,some 35,some 36,some 32,some 37,some 38,some 8,none] (fun i_ a0 v_ M=>match i_ with|0=>v_=.agg #[jI m.ins,m.sv,m.av,m.ov]∧M=[]|1=>v_=.agg #[jI m.ins,m.sv,m.av,m.ov]∧M=[]|2=>(fun u_ M=>∃(ps:List HP) (rs:List CRow),M=[rS9 26 1 u_ rs crowC,bigE ps]∧(∀w,(bigE ps).holds w→RdsAll w rs)∧rs.length=m.gs.length∧∀r∈rs,r.xs.length≤400) v_ M|3=>(fun u_ M=>∃(ps:List HP) (m:Ln) (b:Bool),u_=.tuple #[m.agg,.bool b]∧M=[bigE ps]∧(∀w,(bigE ps).holds w→RdsLn w m)∧(m.sv.oneCell'=true∧m.lv.oneCell'=true∧m.ov.oneCell'=true)∧LnOk m) v_ M|4=>v_=.tuple #[.agg #[jI (tL0 (gV9 a0 0)),(tLk 1 (gV9 a0 0)),(tLk 2 (gV9 a0 0)),(tLk 3 (gV9 a0 0))],.bool (tLb (gV9 a0 0))]∧M=[]|5=>v_=.agg #[jI (tL0 (gV9 a0 0)),(tLk 1 (gV9 a0 0)),(tLk 2 (gV9 a0 0)),(tLk 3 (gV9 a0 0))]∧M=[]|6=>v_=.bool (tLb (gV9 a0 0))∧M=[]|7=>IsBox #[jI 0,.slice none 0 0,.slice none 0 0,.slice none 0 0] 108 v_ M|8=>M=[boxE (blkOf (gV9 a0 2)) #[jI (tL0 (gV9 a0 0)),(tLk 1 (gV9 a0 0)),(tLk 2 (gV9 a0 0)),(tLk 3 (gV9 a0 0))] 108]|_=>True) [[],[],[1],[0,2],[3],[3,4],[3,4],[],[3,5]] [none,none,none,none,none,none,none,none,some 7] [] [0,1,2,3,4,5,6,8] 10 (take_append_drop 9 _).symm F F F A A ?_ ?_
 refine⟨?_,?_,?_,?_,?_,?_,?_,?_,?_,trivial⟩
 intro vf E G e
 refine cD [] [] A (bC (aD [7] A) z9 ?_)
 exact aK (aP (cs:=[jI m.ins,m.sv,m.av,m.ov]) A A A A A (aM 0 A 0 A))
 intro vf E G e
 refine cD [] [] A (bC (aD [7] A) z9 ?_)
 exact aK (aP (cs:=[jI m.ins,m.sv,m.av,m.ov]) A A A A A (aM 0 A 0 A))
 intro vf E G e
 have e1:=e 1 V
 refine cD [1] [1] A (bC (aX 34 e1.1 (aA _)) z9 ?_)
 exact aF A A (fun w hm=>sD m w (ax w (hm.holds _ (cT (i:=1) A))) ag)
 intro vf E G e
 have e0:=e 0 V
 obtain⟨am,ai⟩:=dU (vf 2)
 obtain⟨c1,an⟩:=dU (E 2)
 have ao:=e 2 V
 rw[ai,an] at ao
 obtain⟨ds,rs,rfl,bh,c2,b5⟩:=ao
 refine cD [0,2] [0,2] A (bQ (aX 33 e0.1 (aX 35 ai (aA _))) (by simp only[an,ai,e0.2,fS]<;>rfl) ?_)
 exact aF A A (fun w hm=>Dk m rs _ w (ax w (hm.holds _ (cT (i:=3) A))) ag ⟨aB 0 A w hm,bh w (hm.holds _ (cT (i:=1) A))⟩ b5 O)
 intro vf E G e
 obtain⟨ay,U⟩:=dU (vf 3)
 obtain⟨az,a1⟩:=dU (E 3)
 have a2:=e 3 V
 rw[U,a1] at a2
 obtain⟨a6,D,tb,rfl,rfl,aj,⟨aa,ab,ac⟩,ak⟩:=a2
 refine cD [3] [3] A (bQ (aX 36 U (aA _)) (by simp only[a1,U,fS]<;>rfl) ?_)
 exact dM (aK (aU A)) (fun _ _ h=>⟨h.1.trans (by show _=(.tuple #[.agg #[jI (tL0 (vf 3)),(tLk 1 (vf 3)),(tLk 2 (vf 3)),(tLk 3 (vf 3))],.bool (tLb (vf 3))]:Value);first|(rw[U];done)|(rw[U];rfl)),h.2⟩)
 intro vf E G e
 obtain⟨ay,U⟩:=dU (vf 3)
 obtain⟨az,a1⟩:=dU (E 3)
 have a2:=e 3 V
 rw[U,a1] at a2
 obtain⟨a6,D,tb,rfl,rfl,aj,⟨aa,ab,ac⟩,ak⟩:=a2
 have e4:(vf 4)=.tuple #[.agg #[jI (tL0 (vf 3)),(tLk 1 (vf 3)),(tLk 2 (vf 3)),(tLk 3 (vf 3))],.bool (tLb (vf 3))]∧(E 4)=[]:=e 4 V
 rw[U] at e4
 refine cD [3,4] [3,4] A (bQ (aX 32 e4.1 (aA _)) (by simp only[a1,U,e4.2,fS]<;>rfl) ?_)
 exact dM (aK (aU A)) (fun _ _ h=>⟨h.1.trans (by show _=(.agg #[jI (tL0 (vf 3)),(tLk 1 (vf 3)),(tLk 2 (vf 3)),(tLk 3 (vf 3))]:Value);first|(rw[U];done)|(rw[U];rfl)),h.2⟩)
 intro vf E G e
 obtain⟨ay,U⟩:=dU (vf 3)
 obtain⟨az,a1⟩:=dU (E 3)
 have a2:=e 3 V
 rw[U,a1] at a2
 obtain⟨a6,D,tb,rfl,rfl,aj,⟨aa,ab,ac⟩,ak⟩:=a2
 have e4:(vf 4)=.tuple #[.agg #[jI (tL0 (vf 3)),(tLk 1 (vf 3)),(tLk 2 (vf 3)),(tLk 3 (vf 3))],.bool (tLb (vf 3))]∧(E 4)=[]:=e 4 V
 rw[U] at e4
 refine cD [3,4] [3,4] A (bQ (aX 32 e4.1 (aA _)) (by simp only[a1,U,e4.2,fS]<;>rfl) ?_)
 exact dM (aK (aU A)) (fun _ _ h=>⟨h.1.trans (by show _=(.bool (tLb (vf 3)):Value);first|(rw[U];done)|(rw[U];rfl)),h.2⟩)
 intro vf E G e
 refine cD [] [] A (bC (aA _) z9 ?_)
 exact bY (z:=.agg #[jI 0,.slice none 0 0,.slice none 0 0,.slice none 0 0]) A A
 intro vf E G e
 obtain⟨ay,U⟩:=dU (vf 3)
 obtain⟨az,a1⟩:=dU (E 3)
 have a2:=e 3 V
 rw[U,a1] at a2
 obtain⟨a6,D,tb,rfl,rfl,aj,⟨aa,ab,ac⟩,ak⟩:=a2
 have e5:(vf 5)=.agg #[jI (tL0 (vf 3)),(tLk 1 (vf 3)),(tLk 2 (vf 3)),(tLk 3 (vf 3))]∧(E 5)=[]:=e 5 V
 rw[U] at e5
 obtain⟨ap,aq,bi⟩:=e 7 V
 refine Or.inl ⟨A,?_⟩
 show RunM _ _ _ (E 7) (([3,5]:List Nat).flatMap E++_) (envOf3 _ vf [3,5,7]++_) _ _
 rw[bi]
 exact eJ (aX 8 aq (aX 37 e5.1 (aA _))) (by simp only[a1,U,e5.2,fS]<;>rfl) (jD (hO (us:=[jI D.ins,D.sv,D.lv,D.ov]) (off:=0) 0 A A A A A A (aC A (aC aa (aC ab (aC ac bH)))) A A) (fun v_ M h=>by show M=[boxE (blkOf (vf 7)) #[jI (tL0 (vf 3)),(tLk 1 (vf 3)),(tLk 2 (vf 3)),(tLk 3 (vf 3))] 108];rw[U,aq];exact h))
 intro vf E G e
 obtain⟨am,ai⟩:=dU (vf 2)
 obtain⟨c1,an⟩:=dU (E 2)
 have ao:=e 2 V
 rw[ai,an] at ao
 obtain⟨ds,rs,rfl,bh,c2,b5⟩:=ao
 obtain⟨ay,U⟩:=dU (vf 3)
 obtain⟨az,a1⟩:=dU (E 3)
 have a2:=e 3 V
 rw[U,a1] at a2
 obtain⟨a6,D,tb,rfl,rfl,aj,⟨aa,ab,ac⟩,ak⟩:=a2
 have e6:(vf 6)=.bool (tLb (vf 3))∧(E 6)=[]:=e 6 V
 rw[U] at e6
 obtain⟨ap,aq,bi⟩:=e 7 V
 have e8:(E 8)=[boxE (blkOf (vf 7)) #[jI (tL0 (vf 3)),(tLk 1 (vf 3)),(tLk 2 (vf 3)),(tLk 3 (vf 3))] 108]:=e 8 V
 rw[U,aq] at e8
 have c3:=e8
 have q0:=e 0 V
 have q1:=e 1 V
 have q4:=e 4 V
 have q5:=e 5 V
 have q6:=e 6 V
 refine cL (bE [7,6,5,4,3,2,0] _ (aX 8 aq (sk 23 A (aX 38 e6.1 (aA _)))) A) (by simp only[an,ai,a1,U,c3,q0.2,q1.2,q4.2,q5.2,q6.2,fS]<;>rfl) ?_
 simp only[drop_succ_cons,drop_zero]
 refine bG 1 A (dW (aN A (aP (cs:=[jI D.ins,D.sv,D.lv,D.ov]) A A A A A (aM 3 A 0 A)) ?_))
 refine fF A A A (aF A A (fun w hm=>Jd D w (aj w (hm.holds _ (cT (i:=2) A))) ak)) ?_
 intro d4 d5 c4
 obtain⟨kp,bs,bv,d6,rfl,rfl,ba,c5,c6,bj⟩:=c4
 refine aS 3 A (bD (fun c7=>?_) (fun c7=>?_))
 refine bG 2 A (aG ?_)
 refine jF 11 [10,9,8,6,5,4,3,2,1,0,7] A A V ?_
 refine kY (l:=(bigE kp::rS9 26 1 am rs crowC::bigE ds::bigE a6::boxE ap #[jI D.ins,D.sv,D.lv,D.ov] 108::nB9 a9 m::bigE qs::boxE a4 #[jI (4+Y),jI (4+Z),jI (2+B),jI 1] 25::boxE b2 #[jI 0,.slice none 0 0,.slice none 0 0,.slice none 0 0] 108::boxE b1 #[jI 0,jI 0,jI 0,jI 0] 25::l)) A 12 [0,1,2,3,4,5,6,7,8,9,10,11] (List.take 12 _) (List.drop 12 _) [[],[0],[1],[1],[1],[1,4],[1,2,3,5],[1,6],[1],[1,8],[1,6,7,9],[1,6,10]] [44,45,46,47,48,49,50,51,52,53,54,55] (fun i_ a0 v_ M=>match i_ with|0=>v_=.bool true∧M=[]|1=>v_=.bool true∧M=[]|2=>v_=pI g∧M=[]|3=>v_=.agg #[jI (4+Y),jI (4+Z),jI (2+B),jI 1]∧M=[]|4=>v_=bv∧M=[]|5=>(fun v' post=>post=[rI9 3 v' (bs.map Bk.kd)]) v_ M|6=>(∃bk,M=[bk]∧(fun u_ M=>∃zs:List Int,M=bigE [curE g a J K,rI9 3 u_ zs]∧(lenN u_=zs.length∧u_.oneCell'=true)∧((Fits (Dev.mk (4+Y) (4+Z) (2+B) 1) (bs.map Bk.kd)∧zs.length=(bs.map Bk.kd).length∧PlP (Dev.mk (4+Y) (4+Z) (2+B) 1) (bs.map Bk.kd) zs)∨(¬Fits (Dev.mk (4+Y) (4+Z) (2+B) 1) (bs.map Bk.kd)∧zs=[]))) v_ bk)|7=>v_=jI (lenN (gV9 a0 1):Int)∧M=[]|8=>v_=bv∧M=[]|9=>v_=jI (bs.length:Int)∧M=[]|10=>v_=.bool ((lenN (gV9 a0 1):Int)==(bs.length:Int))∧M=[]|11=>v_=.bool ((lenN (gV9 a0 1):Int)==(bs.length:Int))∧M=[]|_=>True) [[],[0],[1],[1],[1],[1,4],[1,2,3,5],[1,6],[1],[1,8],[1,6,7,9],[1,6,10]] [none,none,none,none,none,none,some 12,none,none,none,none,none] [curE g a J K] [0,1,2,3,4,5,6,7,8,9,10,11] 12 (take_append_drop 12 _).symm F F F A A ?_ ?_
 refine⟨?_,?_,?_,?_,?_,?_,?_,?_,?_,?_,?_,?_,trivial⟩
 intro vf E G e
 refine kB [] [] A (aZ (aD [11] A) ?_)
 exact aK (aU A)
 intro vf E G e
 have e0:=e 0 V
 refine kB [0] [0] A (aZ (aX 44 e0.1 (aA _)) ?_)
 exact aK (aU A)
 intro vf E G e
 have e1:=e 1 V
 refine Or.inl ⟨cC (congrArg some e1.1) A,?_⟩
 show RunQ _ _ _ (([1]:List Nat).flatMap E++_) (envOf _ vf [1]++_) _ _
 exact aZ (aD [0] A) (aK (aU A))
 intro vf E G e
 have e1:=e 1 V
 refine Or.inl ⟨cC (congrArg some e1.1) A,?_⟩
 show RunQ _ _ _ (([1]:List Nat).flatMap E++_) (envOf _ vf [1]++_) _ _
 exact bC (aD [5] A) z9 (aK (aP (cs:=[jI (4+Y),jI (4+Z),jI (2+B),jI 1]) A A A A A (aM 7 A 0 A)))
 intro vf E G e
 have e1:=e 1 V
 refine Or.inl ⟨cC (congrArg some e1.1) A,?_⟩
 show RunQ _ _ _ (([1]:List Nat).flatMap E++_) (envOf _ vf [1]++_) _ _
 exact aZ (aD [10] A) (aK (aU A))
 intro vf E G e
 have e1:=e 1 V
 have e4:=e 4 V
 refine Or.inl ⟨cC (congrArg some e1.1) A,?_⟩
 show RunQ _ _ _ (([1,4]:List Nat).flatMap E++_) (envOf _ vf [1,4]++_) _ _
 exact bC (aX 48 e4.1 (aA _)) z9 (aF A A (fun w hm=>qR bs _ w (ba w (hm.holds _ (cT (i:=0) A))) O))
 intro vf E G e
 have e1:=e 1 V
 have e2:=e 2 V
 have e3:=e 3 V
 obtain⟨ar,al⟩:=dU (vf 5)
 obtain⟨c8,au⟩:=dU (E 5)
 have aw:=e 5 V
 rw[al,au] at aw
 subst aw
 refine Or.inl ⟨cC (congrArg some e1.1) A,?_⟩
 show RunM _ _ _ (E 12) (([1,2,3,5]:List Nat).flatMap E++_) (envOf _ vf [1,2,3,5]++_) _ _
 rw[G]
 exact eJ (aX 46 e2.1 (aX 47 e3.1 (aX 49 al (aA _)))) (by simp only[au,al,e1.2,e2.2,e3.2,fS]<;>rfl) (gX (R:=(fun u_ M=>∃zs:List Int,M=bigE [curE g a J K,rI9 3 u_ zs]∧(lenN u_=zs.length∧u_.oneCell'=true)∧((Fits (Dev.mk (4+Y) (4+Z) (2+B) 1) (bs.map Bk.kd)∧zs.length=(bs.map Bk.kd).length∧PlP (Dev.mk (4+Y) (4+Z) (2+B) 1) (bs.map Bk.kd) zs)∨(¬Fits (Dev.mk (4+Y) (4+Z) (2+B) 1) (bs.map Bk.kd)∧zs=[])))) A A (fun L w hX hm=>kN g a J K z (Dev.mk (4+Y) (4+Z) (2+B) 1) (bs.map Bk.kd) ar _ _ _ hm hb a8 (fun w c9=>by have h9:=hX w c9;exact aB 0 rfl w h9) (by rw[length_map];omega)))
 intro vf E G e
 have e1:=e 1 V
 obtain⟨bb,ad,a3⟩:=e 6 V
 obtain⟨ae,X⟩:=dU (vf 6)
 rw[X] at a3
 obtain⟨a5,rfl,⟨a7,af⟩,ah⟩:=a3
 refine Or.inl ⟨cC (congrArg some e1.1) A,?_⟩
 show RunQ _ _ _ (([1,6]:List Nat).flatMap E++_) (envOf _ vf [1,6]++_) _ _
 exact bQ (aX 50 X (aA _)) (by simp only[ad,X,e1.2,fS]<;>rfl) (dM (aK (eV A A A (Jz (fun w hm=>cI (Kn (hm.holds _ (cT (i:=0) A)) (j:=1) A))))) (fun _ _ h=>⟨h.1.trans (by show _=(jI (lenN (vf 6):Int):Value);first|(rw[X];done)|(rw[X];rfl)),h.2⟩))
 intro vf E G e
 have e1:=e 1 V
 refine Or.inl ⟨cC (congrArg some e1.1) A,?_⟩
 show RunQ _ _ _ (([1]:List Nat).flatMap E++_) (envOf _ vf [1]++_) _ _
 exact aZ (aD [10] A) (aK (aU A))
 intro vf E G e
 have e1:=e 1 V
 have e8:=e 8 V
 refine Or.inl ⟨cC (congrArg some e1.1) A,?_⟩
 show RunQ _ _ _ (([1,8]:List Nat).flatMap E++_) (envOf _ vf [1,8]++_) _ _
 exact bC (aX 52 e8.1 (aA _)) z9 (aK (eV A A A (fun w hm=>(ba w (hm.holds _ (cT (i:=0) A))).row)))
 intro vf E G e
 have e1:=e 1 V
 obtain⟨bb,ad,a3⟩:=e 6 V
 obtain⟨ae,X⟩:=dU (vf 6)
 rw[X] at a3
 obtain⟨a5,rfl,⟨a7,af⟩,ah⟩:=a3
 have e7:(vf 7)=jI (lenN (vf 6):Int)∧(E 7)=[]:=e 7 V
 rw[X] at e7
 have e9:=e 9 V
 refine Or.inl ⟨cC (congrArg some e1.1) A,?_⟩
 show RunQ _ _ _ (([1,6,7,9]:List Nat).flatMap E++_) (envOf _ vf [1,6,7,9]++_) _ _
 exact bQ (aX 51 e7.1 (aX 53 e9.1 (aA _))) (by simp only[ad,X,e1.2,e7.2,e9.2,fS]<;>rfl) (dM (aK (jA A A A A)) (fun _ _ h=>⟨h.1.trans (by show _=(.bool ((lenN (vf 6):Int)==(bs.length:Int)):Value);first|(rw[X];done)|(rw[X];rfl)),h.2⟩))
 intro vf E G e
 have e1:=e 1 V
 obtain⟨bb,ad,a3⟩:=e 6 V
 obtain⟨ae,X⟩:=dU (vf 6)
 rw[X] at a3
 obtain⟨a5,rfl,⟨a7,af⟩,ah⟩:=a3
 have bc:(vf 10)=.bool ((lenN (vf 6):Int)==(bs.length:Int))∧(E 10)=[]:=e 10 V
 rw[X] at bc
 refine kB [1,6,10] [1,6,10] A (bQ (aX 45 e1.1 (aX 54 bc.1 (aA _))) (by simp only[ad,X,e1.2,bc.2,fS]<;>rfl) ?_)
 exact dM (aK (aU A)) (fun _ _ h=>⟨h.1.trans (by show _=(.bool ((lenN (vf 6):Int)==(bs.length:Int)):Value);first|(rw[X];done)|(rw[X];rfl)),h.2⟩)
 intro vf E G e
 obtain⟨ar,al⟩:=dU (vf 5)
 obtain⟨c8,au⟩:=dU (E 5)
 have aw:=e 5 V
 rw[al,au] at aw
 subst aw
 obtain⟨bb,ad,a3⟩:=e 6 V
 obtain⟨ae,X⟩:=dU (vf 6)
 rw[X] at a3
 obtain⟨a5,rfl,⟨a7,af⟩,ah⟩:=a3
 have bl:(vf 11)=.bool ((lenN (vf 6):Int)==(bs.length:Int))∧(E 11)=[]:=e 11 V
 rw[X] at bl
 have q0:=e 0 V
 have q1:=e 1 V
 have q2:=e 2 V
 have q3:=e 3 V
 have q4:=e 4 V
 have q7:=e 7 V
 have q8:=e 8 V
 have q9:=e 9 V
 have ca:=e 10 V
 have cb:=e 11 V
 refine cL (bE [23,11,10,8,7,6,5,4,3,2,0] _ (aX 55 bl.1 (aA _)) A) (by simp only[au,al,ad,X,q0.2,q1.2,q2.2,q3.2,q4.2,q7.2,q8.2,q9.2,ca.2,cb.2,fS]<;>rfl) ?_
 simp only[drop_succ_cons,drop_zero]
 refine dL ?_
 refine fO A (fun cc=>?_) (fun cc=>?_)
 refine aG ?_
 have cm:(lenN ae:Int)=(bs.length:Int):=beq_iff_eq.1 I
 refine jF 12 [9,8,7,6,5,4,3,2,1,0,10,11] A A V ?_
 refine gZ (l:=(rowE 3 1 ar ((bs.map Bk.kd).length) (mI (bs.map Bk.kd))::bigE [curE g a J K,rI9 3 ae a5]::bigE kp::rS9 26 1 am rs crowC::bigE ds::bigE a6::boxE ap #[jI D.ins,D.sv,D.lv,D.ov] 108::nB9 a9 m::bigE qs::boxE a4 #[jI (4+Y),jI (4+Z),jI (2+B),jI 1] 25::l)) A 5 [0,1,2,3,4] (List.take 5 _) (List.drop 5 _) [[],[],[],[0],[1]] [some 56,some 57,some 58,none,none] (fun i_ a0 v_ M=>match i_ with|0=>v_=.agg #[jI (4+Y),jI (4+Z),jI (2+B),jI 1]∧M=[]|1=>v_=.agg #[jI D.ins,D.sv,D.lv,D.ov]∧M=[]|2=>v_=bv∧M=[]|3=>M=[boxE b1 #[jI (4+Y),jI (4+Z),jI (2+B),jI 1] 25]|4=>M=[boxE b2 #[jI D.ins,D.sv,D.lv,D.ov] 108]|_=>True) [[],[],[],[0],[1]] [none,none,none,some 6,some 7] [[boxE b1 #[jI 0,jI 0,jI 0,jI 0] 25],[boxE b2 #[jI 0,.slice none 0 0,.slice none 0 0,.slice none 0 0] 108]] [0,1,2,3,4] 6 (take_append_drop 5 _).symm F F F A A ?_ ?_
 refine⟨?_,?_,?_,?_,?_,trivial⟩
 intro vf E G e
 refine cD [] [] A (bC (aD [5] A) z9 ?_)
 exact aK (aP (cs:=[jI (4+Y),jI (4+Z),jI (2+B),jI 1]) A A A A A (aM 9 A 0 A))
 intro vf E G e
 refine cD [] [] A (bC (aD [8] A) z9 ?_)
 exact aK (aP (cs:=[jI D.ins,D.sv,D.lv,D.ov]) A A A A A (aM 6 A 0 A))
 intro vf E G e
 refine cD [] [] A (aZ (aD [10] A) ?_)
 exact aK (aU A)
 intro vf E G e
 have e0:=e 0 V
 refine Or.inl ⟨A,?_⟩
 show RunM _ _ _ (E 6) (([0]:List Nat).flatMap E++_) (envOf3 _ vf [0]++_) _ _
 have bm:E 6=[boxE b1 #[jI 0,jI 0,jI 0,jI 0] 25]:=G 0 (show 0<2 by omega)
 rw[bm]
 exact eJ (sk 2 A (aX 56 e0.1 (aA _))) (by simp only[e0.2,fS]<;>rfl) (jD (hO (us:=[jI (4+Y),jI (4+Z),jI (2+B),jI 1]) (off:=0) 0 A A A A A A (aC A (aC A (aC A (aC A bH)))) A A) (fun v_ M h=>by show M=[boxE b1 #[jI (4+Y),jI (4+Z),jI (2+B),jI 1] 25];exact h))
 intro vf E G e
 have e1:=e 1 V
 refine Or.inl ⟨A,?_⟩
 show RunM _ _ _ (E 7) (([1]:List Nat).flatMap E++_) (envOf3 _ vf [1]++_) _ _
 have bn:E 7=[boxE b2 #[jI 0,.slice none 0 0,.slice none 0 0,.slice none 0 0] 108]:=G 1 (show 1<2 by omega)
 rw[bn]
 exact eJ (sk 3 A (aX 57 e1.1 (aA _))) (by simp only[e1.2,fS]<;>rfl) (jD (hO (us:=[jI D.ins,D.sv,D.lv,D.ov]) (off:=0) 0 A A A A A A (aC A (aC aa (aC ab (aC ac bH)))) A A) (fun v_ M h=>by show M=[boxE b2 #[jI D.ins,D.sv,D.lv,D.ov] 108];exact h))
 intro vf E G e
 have e2:=e 2 V
 have e3:(E 3)=[boxE b1 #[jI (4+Y),jI (4+Z),jI (2+B),jI 1] 25]:=e 3 V
 have a1:=e3
 have e4:(E 4)=[boxE b2 #[jI D.ins,D.sv,D.lv,D.ov] 108]:=e 4 V
 have cd:=e4
 have q0:=e 0 V
 have q1:=e 1 V
 have q2:=e 2 V
 refine cL (bE [55,23,11,10,8,7,6,5,4,3,2,0] _ (aX 58 e2.1 (aA _)) A) (by simp only[a1,cd,q0.2,q1.2,q2.2,fS]<;>rfl) ?_
 simp only[drop_succ_cons,drop_zero]
 refine bG 1 A ?_
 refine cW (dE ?_)
 refine rR ?_
 refine dE (cK ?_)
 have bo:Fits (Dev.mk (4+Y) (4+Z) (2+B) 1) (bs.map Bk.kd):=ah.elim (fun q=>q.1) (fun q=>by
                               have h2:=a7
                               rw[q.2,List.length_nil] at h2
                               have ce:bs.length=0:=O
                               rw[List.length_eq_zero_iff.1 ce];exact Bd _)
 refine bN 12 [11,10,9,8,7,6,5,4,2,1,0,3] A A V ?_
 refine fH (curE g a J K::rI9 3 ae a5::boxE b1 #[jI (4+Y),jI (4+Z),jI (2+B),jI 1] 25::boxE b2 #[jI D.ins,D.sv,D.lv,D.ov] 108::rowE 3 1 ar ((bs.map Bk.kd).length) (mI (bs.map Bk.kd))::bigE kp::rS9 26 1 am rs crowC::bigE ds::bigE a6::boxE ap #[jI D.ins,D.sv,D.lv,D.ov] 108::nB9 a9 m::bigE qs::boxE a4 #[jI (4+Y),jI (4+Z),jI (2+B),jI 1] 25::l) gN ?_
 refine bN 13 [12,10,9,3,2,0,5,8] A A V ?_
 refine dN 2 A ?_
 refine bN 7 [6,5,4,3,2,0,1] A A V ?_
 refine dN 2 A ?_
 exact fU (rs:=[.cell 2 25,.cell 3 108,.tmp 4]) (vs:=[.agg #[jI (4+Y),jI (4+Z),jI (2+B),jI 1],.agg #[jI D.ins,D.sv,D.lv,D.ov],bv]) A ⟨⟨b1,0,[jI (4+Y),jI (4+Z),jI (2+B),jI 1],A,A,F,F,aM 1 A 0 A⟩,⟨b2,0,[jI D.ins,D.sv,D.lv,D.ov],A,A,F,F,aM 2 A 0 A⟩,A,trivial⟩ A (fun w hm=>⟨_,bigE [curE g a J K,bigE [bigE a6,bigE kp]],A,⟨(Dev.mk (4+Y) (4+Z) (2+B) 1),D,_,bs,bv,A,A,fun w hw=>⟨aj w (bF hw eG),ba w (bF hw (fW eG))⟩,⟨aa,ab,ac⟩,c5,ak,c6,bj,a8,bo⟩,hm.sub (.cons_cons _ (pR 5 A))⟩)
 refine gP (eB (cN 1 A (aN A (eY A A A) ?_)))
 have a8:devB (Dev.mk (4+Y) (4+Z) (2+B) 1)=true:=sB ⟨O,O⟩ ⟨O,O⟩ ⟨O,O⟩
 refine eS 1 A ?_
 refine bN 12 [11,10,9,8,7,6,5,4,3,2,0,1] A A V ?_
 refine fH (curE g a J K::rI9 3 ae a5::rowE 3 1 ar ((bs.map Bk.kd).length) (mI (bs.map Bk.kd))::bigE kp::rS9 26 1 am rs crowC::bigE ds::bigE a6::boxE ap #[jI D.ins,D.sv,D.lv,D.ov] 108::nB9 a9 m::bigE qs::boxE a4 #[jI (4+Y),jI (4+Z),jI (2+B),jI 1] 25::boxE b2 #[jI 0,.slice none 0 0,.slice none 0 0,.slice none 0 0] 108::boxE b1 #[jI 0,jI 0,jI 0,jI 0] 25::l) gN ?_
 refine bN 13 [0,12,11,10] A A V ?_
 exact dR (t+1) O O (bV A) (.refl _)
 refine bG 2 A (aG ?_)
 refine bL 12 [[],[0],[1],[1],[1],[1],[1],[1],[1],[1],[1],[1,10]] [44,45,46,47,48,49,50,51,52,53,54,55] [.bool false,.bool false,undef,undef,undef,undef,undef,undef,undef,undef,undef,.bool false] F A ?_ ?_
 exact⟨aJ,aJ,aJ,aJ,aJ,aJ,aJ,aJ,aJ,aJ,aJ,aJ,trivial⟩
 simp only[drop_succ_cons,drop_zero]
 refine dL (jQ A (eB (cN 1 A (aN A (eY A A A) ?_))))
 have a8:devB (Dev.mk (4+Y) (4+Z) (2+B) 1)=true:=sB ⟨O,O⟩ ⟨O,O⟩ ⟨O,O⟩
 refine eS 1 A ?_
 refine bN 11 [7,10,9,8] A A V ?_
 exact dR (t+1) O O (bV A) (.refl _)
 refine dL (aV A ?_)
 refine bW (fM ?_)
 refine aO (bB (dW (aN A (aP (cs:=[jI (4+Y),jI (4+Z),jI (2+B),jI 1]) A A A A A (aM 0 A 0 A)) (aN A (dG (cs:=#[jI 0,.slice none 0 0,.slice none 0 0,.slice none 0 0]) A A A) ?_))))
 refine cH A (bU (s:=3) A Tryz.underlying109 A) ?_
 intro bp
 refine cA (cs':=#[jI (4+Y),jI (4+Z),jI (2+B),jI 1]) (i:=3) (off:=0) (us:=[jI (4+Y),jI (4+Z),jI (2+B),jI 1]) A A A A A A A (aC A (aC A (aC A (aC A bH)))) A A A (cA (cs':=#[jI 0,.slice none 0 0,.slice none 0 0,.slice none 0 0]) (i:=2) (off:=0) (us:=[jI 0,.slice none 0 0,.slice none 0 0,.slice none 0 0]) A A A A A A A (aC A (aC A (aC A (aC A bH)))) A A A ?_)
 refine bG 1 A ?_
 refine cW (bN 5 [4,3,2,1,0] A A V ?_)
 refine dN 1 A ?_
 refine bN 5 [3,2,1,0,4] A A V ?_
 refine dN 2 A ?_
 exact fU (rs:=[.cell 2 25,.cell 3 108,.tmp 4]) (vs:=[.agg #[jI (4+Y),jI (4+Z),jI (2+B),jI 1],.agg #[jI 0,.slice none 0 0,.slice none 0 0,.slice none 0 0],.slice (some ⟨bp,0,none⟩) 0 0]) A ⟨⟨b1,0,[jI (4+Y),jI (4+Z),jI (2+B),jI 1],A,A,F,F,aM 3 A 0 A⟩,⟨b2,0,[jI 0,.slice none 0 0,.slice none 0 0,.slice none 0 0],A,A,F,F,aM 2 A 0 A⟩,A,trivial⟩ A (fun w hm=>⟨_,bigE [curE g a J K,bigE [rowE 136 3 (.slice (some ⟨bp,0,none⟩) 0 0) 0 ([])]],A,⟨(Dev.mk (4+Y) (4+Z) (2+B) 1),(Ln.mk 0 (.slice none 0 0) (.slice none 0 0) (.slice none 0 0) [] [] []),_,[],_,A,A,fun w hw=>⟨Cu w,⟨cI (bF hw eG),fun b hb=>by cases hb⟩⟩,⟨A,A,A⟩,A,ln_nil,(fun b hb=>by cases hb),V,a8,Bd _⟩,hm.sub (.cons_cons _ (pR 3 A))⟩)
open Go.RowKit
theorem Hx {x:Int}(h:x∈([0,1]:List Int)):0≤x∧x≤3:=by
  rcases List.mem_cons.1 h with rfl|h
  · decide
  · obtain rfl:=List.mem_singleton.1 h;decide
theorem Kj {x:Int}(h:x∈([0,1,3,3]:List Int)):0≤x∧x≤3:=by
  simp only[List.mem_cons,List.not_mem_nil,or_false] at h;omega
theorem ks_app {B:List Int}(h:∀x∈B,0≤x∧x≤3) {y:Int}(D:0≤y∧y≤3):∀x∈B++[y],0≤x∧x≤3:=fun x e=>by
  rcases List.mem_append.1 e with e|e
  · exact h x e
  · rw[mem_singleton] at e;subst e;exact D
theorem iV (g:Nat) (a:Option Addr) (e h:Nat) (z:List Int) (v:Value) (L:List Int) (w0:World) (l:List HP) (w:World) (E:Mem w0 (curE g a e h::l) w) (U:BRow .u8 w0 a e h z) (G:Rd w0 l v 1 L.length (L.map (Value.int .i64))) (hL:1≤L.length∧L.length≤256) :
   Calls Tryz.prog 82 #[.pointer (some ⟨g,0,none⟩),v] w (fun X Y=>∃M D,X=.returned M∧(fun J D=>(∃x:Int,J=.int .i64 x∧x∈L)∧D=curE g a e h) M D∧Mem w0 (D::l) Y):=by
 refine gE (N:=12) (args:=[pI g,v]) Tryz.func82 A A E (cF 1 A (aG (cN 3 A ?_)))
 refine aN A (eV A A A (fun w B=>G w (B.sub (.cons _ (.refl _))))) (cR (R:=(fun J D=>(∃K:Int,J=jI K∧0≤K∧K<(L.length:Int))∧D=curE g a e h)) 0 A A A A A (fun l' w B=>dT g a e h z (L.length:Int) _ _ _ B U AE) fun v1 p2 Z=>?_)
 obtain⟨⟨x3,rfl,a0,a1⟩,rfl⟩:=Z
 refine dO (l':=(curE g a e h::l)) A ?_
 refine aN A (cV 1 A A A A (fun w B=>G w (B.sub (.cons _ (.refl _))))) (aN A (lP A A A (fun w B=>G w (B.sub (.cons _ (.refl _))))) (go ?_))
 exact fU (rs:=[.tmp 4]) (vs:=[jI (L.getD (x3.toNat) 0)]) A ⟨A,trivial⟩ A (fun w B=>⟨_,curE g a e h,A,⟨⟨_,A,eN (es:=L) (d:=0) O⟩,A⟩,B.sub (.refl _)⟩)
theorem kint:Keyed Tryz.prog 3:=int_keyed Tryz.underlying3
def wfI (x:Int):Prop:=(Lit.int .i64 x).wf=true
theorem lL {x:Int}(h : -9223372036854775808≤x∧x≤9223372036854775807):wfI x:=by
  show(decide (IntKind.i64.min≤x)&&decide (x≤IntKind.i64.max))=true
  have e:IntKind.i64.min = -9223372036854775808:=by rfl
  have B:IntKind.i64.max=9223372036854775807:=by rfl
  rw[e,B,decide_eq_true h.1,decide_eq_true h.2];rfl
def setE (b:Nat) (S:List Int):HP:=⟨fun k=>k=b,fun w=>∃D:DataW Unit,w.ownsMap Tryz.prog 3 (plainElem Tryz.prog 4) b S.length D∧IsMap D∧∀x,D.atKey (.int .i64 x) (.lit (.bool false))=.lit (.bool (S.contains x))⟩
theorem Dv (b:Nat) (S:List Int):(setE b S).Ok:=fun w w' hs hf ⟨D,⟨es,clock,h1,h2⟩,h3⟩=>⟨D,⟨es,clock,(hf b rfl).trans h1,h2⟩,h3⟩
theorem Cm {P:Program}{t:TypeId}(B:P.underlying t=some .bool) {v:Value}{c:Bool}{ps:List MemPlace}(h:plainElem (H:=Unit) P t v=some (.lit (.bool c),ps)):v=.bool c:=by
  unfold plainElem at h
  rw[B] at h
  cases v with
  | bool x=>simp only[Option.some.injEq,Prod.mk.injEq] at h;have e:=h.1;cases e;rfl
  | _=>exact absurd h (by intro e;cases e)
theorem Ix {v:Value}{c:Bool}{ps:List MemPlace}(h:plainElem (H:=Unit) Tryz.prog 4 v=some (.lit (.bool c),ps)):v=.bool c:=Cm Tryz.underlying4 h
section
variable {N:Nat}{w0:World}{l:List HP}{env:List (Nat×Value)}{o:Oper}
theorem pJ {t:TypeId}(ho:o.op=.makeMap t none):RunQ Tryz.prog N w0 l env o (fun v p=>∃b,v=.map (some b)∧p=[setE b []]):=wP fun a w st=>by
  refine⟨.map (some w.heap.size),_,w.alloc (.map #[] 0),by simp only[execOp,ho,Option.map_none,Sem.run_bind,Sem.run_pure,run_makeMap,Result.andThen_ok],⟨_,rfl,rfl⟩,?_⟩
  refine⟨eO (Below.refl _ _) _,fun p hp=>?_,fun p hp=>?_,fun p hp b hf=>?_,by simp⟩
  · rw [mem_singleton] at hp; subst hp
    exact⟨.map [],World.ownsMap_made w _ _ _,⟨_,rfl⟩,fun x=>rfl⟩
  · rw[mem_singleton] at hp;subst hp;exact Dv _ _
  · rw [mem_singleton] at hp; subst hp; cases hf
    exact⟨Nat.le_refl _,by show w.heap.size<(w.heap.push _).size;rw[Array.size_push];omega⟩
theorem qD {t:TypeId}{m x:Operand}{b i:Nat}{S:List Int}{k:Int}(J:o.op=.lookup t m x false) (K:Tryz.prog.underlying t=some (.map 3 4)) (M:ev env m=some (.map (some b))) (U:ev env x=some (.int .i64 k)) (X:wfI k) (Y:l[i]? = some (setE b S)) :
    RunV Tryz.prog N w0 l env o (.bool (S.contains k)):=fun a w B=>by
  obtain⟨D,e,Z,E⟩:=B.mem.holds _ (cT Y)
  obtain⟨v,ps,h,G⟩:=e.lookup kint K (z:=.bool false) (zd:=.lit (.bool false)) (zp:=[]) F (plainElem_bool Tryz.underlying4 false) (keyOf_int_mk Tryz.underlying3 X)
  rw[E k] at G
  have:=Ix G
  subst this
  simp[execOp,J,B.eval M,B.eval U,h]
theorem pQ {ops : Array Oper} {rest : List Oper} {Q : Post} {t : TypeId} {m x y : Operand} {b i : Nat} {S : List Int} {k : Int} (hd : o.dst = none) (hw : want ops env o.guard = some true) (ho : o.op = .mapUpdate t m x y) (ht : Tryz.prog.underlying t = some (.map 3 4)) (hm : ev env m = some (.map (some b))) (hx : ev env x = some (.int .i64 k)) (hy : ev env y = some (.bool true)) (hk : wfI k)
    (hi:l[i]? = some (setE b S)) (hl:S.length≤1000000) {l':List HP}(hl':l.set i (setE b (k::S))=l') (kk:HL Tryz.prog N ops w0 l' env rest Q):HL Tryz.prog N ops w0 l env (o::rest) Q:=by
  subst hl'
  exact mU hd hw (fun a w st=>by
    obtain⟨D,hown,hD,hat⟩:=st.mem.holds _ (cT hi)
    obtain⟨w',hrun,hown',hg⟩:=hown.update kint ht (by unfold maxLen;omega) (keyOf_int_mk Tryz.underlying3 hk) (plainElem_bool Tryz.underlying4 true)
    refine⟨w',by simp[execOp,ho,st.eval hm,st.eval hx,st.eval hy,hrun],?_⟩
    refine st.mem.turnAt hi hg.os hg.tape hg.output hg.size (fun c hc hf=>hg.block c hc (fun e=>hf (by cases e;rfl))) (Dv _ _) (fun c hc=>.inl hc) (fun c hc=>by cases hc;exact hown'.lt) ⟨_,hown',?_,fun z=>?_⟩
    · obtain⟨es,rfl⟩:=hD;exact⟨_,rfl⟩
    · by_cases hz : z = k
      · subst hz
        rw[atKey_put_same hD (kint.key (keyOf_int_mk Tryz.underlying3 hk))];simp
      · rw[atKey_put_other (by simpa using hz),hat z];simp[hz]) kk
end
theorem hJ {d:Dev}{t dir s:Int}(h:tOk d t=true) (e:0≤dir) (B:dir≤3) (D:0≤s) (E:s≤6):tileStepI d t dir s=stepI d t dir s:=if_pos ⟨h,gL e B,gL D E⟩
theorem gH {d:Dev}{t:Int}(h:tOk d t=true):tileKindI d t=kindI d t:=if_pos h
theorem iZ (d:Dev) (n:Int) (w:World) :
    Calls Tryz.prog 31 #[.agg #[.int .i64 d.W,.int .i64 d.H,.int .i64 d.T,.int .i64 d.R],.int .i64 n] w fun e w'=>e=.returned (.bool (nodeOkI d n))∧Below w.heap.size w w':=by
  by_cases hneg:n<0
  · have hf : Hid (nodeOkI d n = false) := pM (oS (.inl hneg))
    have hS0:=cY w d
    have HS0:=Lib.hid hS0
    go_enter Tryz.func31,Tryz.ntmps31
    go_wp2
    go_ret
    exact⟨fD hf.out.symm,eR HS0.out⟩
  rcases eq_false_or_eq_true (devB d) with hv|hv
  rotate_left
  · have hf := Lib.hid (uL (n := n) hv)
    have hS0:=cY w d
    have HS0:=Lib.hid hS0
    go_enter Tryz.func31,Tryz.ntmps31
    go_wp2_with fail
    refine(mA d hv _).mono ?_
    rintro e w1 ⟨rfl,hb1⟩
    have hS1:=bX HS0.out hb1
    have HS1:=Lib.hid hS1
    clear hS0
    obtain⟨c0,c1,c2,c3, -⟩:=hS1
    clear hb1
    have hz1:w.heap.size<w1.heap.size:=World.block_lt_of_cell? _ _ c0
    go_wp2
    go_ret
    exact⟨fD hf.out.symm,eR HS1.out⟩
  obtain⟨m1,m2⟩:=eM hv
  by_cases hbig:allI d≤n
  · have hf : Hid (nodeOkI d n = false) := pM (oS (.inr (by omega)))
    have hS0:=cY w d
    have HS0:=Lib.hid hS0
    go_enter Tryz.func31,Tryz.ntmps31
    go_wp2_with fail
    refine(eX d hv _).mono ?_
    rintro e w1 ⟨rfl,hb1⟩
    have hS1:=bX HS0.out hb1
    have HS1:=Lib.hid hS1
    clear hS0
    obtain⟨c0,c1,c2,c3, -⟩:=hS1
    clear hb1
    have hz1:w.heap.size<w1.heap.size:=World.block_lt_of_cell? _ _ c0
    go_wp2
    go_ret
    exact⟨fD hf.out.symm,eR HS1.out⟩
  have n0:0≤n:=by omega
  have n1:n≤allI d-1:=by omega
  have hf0:=oN hv (gL n0 n1)
  obtain⟨h1,h2⟩:=fR hv
  obtain⟨p0,p1,p2,p3,p4⟩:=iE hv n0 n1
  obtain⟨-, -,⟨t1,t2⟩, -⟩:=(dI d).1 hv
  have q1:¬perI d=0:=by omega
  by_cases k5:n % perI d<5
  · have hf := Lib.hid (hf0.trans (Ae k5))
    clear hf0
    have kc:=fX d (n / perI d)
    have ke:=Lib.hid (gH p4)
    have hS0:=cY w d
    have HS0:=Lib.hid hS0
    go_enter Tryz.func31,Tryz.ntmps31
    go_wp2_with fail
    refine(eX d hv _).mono ?_
    rintro e w1 ⟨rfl,hb1⟩
    have hS1:=bX HS0.out hb1
    have HS1:=Lib.hid hS1
    clear hS0
    obtain⟨c0,c1,c2,c3, -⟩:=hS1
    clear hb1
    have hz1:w.heap.size<w1.heap.size:=World.block_lt_of_cell? _ _ c0
    go_wp2_with fail
    refine(eW d hv _).mono ?_
    rintro e w2 ⟨rfl,hb2⟩
    have hS2:=bX HS1.out hb2
    have HS2:=Lib.hid hS2
    clear c0 c1 c2 c3
    obtain⟨c0,c1,c2,c3, -⟩:=hS2
    clear hb2
    have hz2:w.heap.size<w2.heap.size:=World.block_lt_of_cell? _ _ c0
    go_wp2_with fail
    refine(eW d hv _).mono ?_
    rintro e w3 ⟨rfl,hb3⟩
    have hS3:=bX HS2.out hb3
    have HS3:=Lib.hid hS3
    clear c0 c1 c2 c3
    obtain⟨c0,c1,c2,c3, -⟩:=hS3
    clear hb3
    have hz3:w.heap.size<w3.heap.size:=World.block_lt_of_cell? _ _ c0
    go_wp2_with fail
    refine(cQ d _ _).mono ?_
    rintro e w4 ⟨rfl,hb4⟩
    have hS4:=bX HS3.out hb4
    have HS4:=Lib.hid hS4
    clear c0 c1 c2 c3
    obtain⟨c0,c1,c2,c3, -⟩:=hS4
    clear hb4
    have hz4:w.heap.size<w4.heap.size:=World.block_lt_of_cell? _ _ c0
    rw[ke.out]
    go_wp2_with fail
    refine(tX _ kc _).mono ?_
    rintro e w' ⟨rfl,rfl⟩
    go_wp2
    go_ret
    exact⟨fD hf.out.symm,eR HS4.out⟩
  by_cases k7:n % perI d<7
  · have hf := Lib.hid (hf0.trans (rU (by omega) k7))
    clear hf0
    have kc:=fX d (n / perI d)
    have ke:=Lib.hid (gH p4)
    have hS0:=cY w d
    have HS0:=Lib.hid hS0
    go_enter Tryz.func31,Tryz.ntmps31
    go_wp2_with fail
    refine(eX d hv _).mono ?_
    rintro e w1 ⟨rfl,hb1⟩
    have hS1:=bX HS0.out hb1
    have HS1:=Lib.hid hS1
    clear hS0
    obtain⟨c0,c1,c2,c3, -⟩:=hS1
    clear hb1
    have hz1:w.heap.size<w1.heap.size:=World.block_lt_of_cell? _ _ c0
    go_wp2_with fail
    refine(eW d hv _).mono ?_
    rintro e w2 ⟨rfl,hb2⟩
    have hS2:=bX HS1.out hb2
    have HS2:=Lib.hid hS2
    clear c0 c1 c2 c3
    obtain⟨c0,c1,c2,c3, -⟩:=hS2
    clear hb2
    have hz2:w.heap.size<w2.heap.size:=World.block_lt_of_cell? _ _ c0
    go_wp2_with fail
    refine(eW d hv _).mono ?_
    rintro e w3 ⟨rfl,hb3⟩
    have hS3:=bX HS2.out hb3
    have HS3:=Lib.hid hS3
    clear c0 c1 c2 c3
    obtain⟨c0,c1,c2,c3, -⟩:=hS3
    clear hb3
    have hz3:w.heap.size<w3.heap.size:=World.block_lt_of_cell? _ _ c0
    go_wp2_with fail
    refine(cQ d _ _).mono ?_
    rintro e w4 ⟨rfl,hb4⟩
    have hS4:=bX HS3.out hb4
    have HS4:=Lib.hid hS4
    clear c0 c1 c2 c3
    obtain⟨c0,c1,c2,c3, -⟩:=hS4
    clear hb4
    have hz4:w.heap.size<w4.heap.size:=World.block_lt_of_cell? _ _ c0
    rw[ke.out]
    go_wp2_with fail
    refine(lA _ kc _).mono ?_
    rintro e w' ⟨rfl,rfl⟩
    go_wp2
    go_ret
    exact⟨fD hf.out.symm,eR HS4.out⟩
  · have hf := Lib.hid (hf0.trans (pN (by omega)))
    clear hf0
    obtain⟨g0,g1,g2,g3⟩:=kS hv (by omega) p3
    have z:0≤1+(n % perI d-7) % d.T % 2∧1+(n % perI d-7) % d.T % 2≤2:=by omega
    have se:=Lib.hid (hJ p4 g0 g1 z.1 (by omega))
    have hS0:=cY w d
    have HS0:=Lib.hid hS0
    go_enter Tryz.func31,Tryz.ntmps31
    go_wp2_with fail
    refine(eX d hv _).mono ?_
    rintro e w1 ⟨rfl,hb1⟩
    have hS1:=bX HS0.out hb1
    have HS1:=Lib.hid hS1
    clear hS0
    obtain⟨c0,c1,c2,c3, -⟩:=hS1
    clear hb1
    have hz1:w.heap.size<w1.heap.size:=World.block_lt_of_cell? _ _ c0
    go_wp2_with fail
    refine(eW d hv _).mono ?_
    rintro e w2 ⟨rfl,hb2⟩
    have hS2:=bX HS1.out hb2
    have HS2:=Lib.hid hS2
    clear c0 c1 c2 c3
    obtain⟨c0,c1,c2,c3, -⟩:=hS2
    clear hb2
    have hz2:w.heap.size<w2.heap.size:=World.block_lt_of_cell? _ _ c0
    go_wp2_with fail
    refine(eW d hv _).mono ?_
    rintro e w3 ⟨rfl,hb3⟩
    have hS3:=bX HS2.out hb3
    have HS3:=Lib.hid hS3
    clear c0 c1 c2 c3
    obtain⟨c0,c1,c2,c3, -⟩:=hS3
    clear hb3
    have hz3:w.heap.size<w3.heap.size:=World.block_lt_of_cell? _ _ c0
    go_wp2_with fail
    refine(mY d n hv n0 n1 (by omega) _).mono ?_
    rintro e w4 ⟨rfl,hb4⟩
    have hS4:=bX HS3.out hb4
    have HS4:=Lib.hid hS4
    clear c0 c1 c2 c3
    obtain⟨c0,c1,c2,c3, -⟩:=hS4
    clear hb4
    have hz4:w.heap.size<w4.heap.size:=World.block_lt_of_cell? _ _ c0
    go_wp2_with fail
    refine(iC d _ _ _ _).mono ?_
    rintro e w5 ⟨rfl,hb5⟩
    have hS5:=bX HS4.out hb5
    have HS5:=Lib.hid hS5
    clear c0 c1 c2 c3
    obtain⟨c0,c1,c2,c3, -⟩:=hS5
    clear hb5
    have hz5:w.heap.size<w5.heap.size:=World.block_lt_of_cell? _ _ c0
    rw[se.out]
    go_wp2
    go_ret
    exact⟨fD hf.out.symm,eR HS5.out⟩
open Go.RowKit
theorem tk_pos {d:Dev}{t:Int}(h:0≤tileKindI d t):devB d=true∧(0≤t∧t≤d.W*d.H-1)∧tOk d t=true:=by
  unfold tileKindI at h
  split at h
  · rename_i ht;obtain⟨a,b,c⟩:=(fC _ _).1 ht;exact⟨a,⟨b,c⟩,ht⟩
  · omega
theorem xL {d:Dev}{t:Int}(h:tileKindI d t<0):tOk d t≠true:=by
  intro B
  unfold tileKindI at h
  rw[if_pos B] at h
  rcases fX d t with e|e|e<;>omega
def wireNodeS (d:Dev) (t dir k:Int):Int:=if tOk d t=true∧0≤k∧k<d.T∧0≤tileStepI d t dir (1+k % 2) then wireN d t dir k else -1
theorem nY {d:Dev}{dir:Int}(e:devB d=true) (h:0≤dir) (B:dir≤3):0≤dir*d.T∧dir*d.T≤12:=by
  obtain⟨-, -,⟨E,D⟩, -⟩:=(dI d).1 e
  exact⟨Int.mul_nonneg h O,Int.le_trans (Int.mul_le_mul B D O O) O⟩
theorem mJ (d:Dev) (t dir k:Int) (w:World) (U:0≤dir) (X:dir≤3) (k0 : -1000≤k) (jH:k≤1000) :
   Calls Tryz.prog 84 #[.agg #[.int .i64 d.W,.int .i64 d.H,.int .i64 d.T,.int .i64 d.R],.int .i64 t,.int .i64 dir,.int .i64 k] w (Ans w (.int .i64 (wireNodeS d t dir k))):=by
 refine aY (N:=45) (args:=[.agg #[jI d.W,jI d.H,jI d.T,jI d.R],jI t,jI dir,jI k]) Tryz.func84 A A (dW ?_)
 refine cU A (cE A A) fun Y=>go ?_
 refine cM A (aF A A (fun w M=>aI (cQ d _ w))) (aW A A A A A A (fun Z=>go ?_) (fun Z=>go ?_))
 exact aT A A (by unfold wireNodeS;rw[if_neg (by rintro ⟨e,h,B,D⟩;first|omega|exact xL I e)])
 refine aW A A A A A A (fun h3=>go ?_) (fun h3=>go ?_)
 exact aT A A (by unfold wireNodeS;rw[if_neg (by rintro ⟨e,h,B,D⟩;first|omega|exact xL I e)])
 refine eK A A A A A A (fun h4=>go ?_) (fun h4=>go ?_)
 exact aT A A (by unfold wireNodeS;rw[if_neg (by rintro ⟨e,h,B,D⟩;first|omega|exact xL I e)])
 refine aN A (fT A A A AE) (go ?_)
 refine cM A (aF A A (fun w M=>aI (iC d _ _ _ w))) (aW A A A A A A (fun h5=>go ?_) (fun h5=>go ?_))
 exact aT A A (by unfold wireNodeS;rw[if_neg (by rintro ⟨e,h,B,D⟩;first|omega|exact xL I e)])
 obtain⟨E,⟨G,J⟩,K⟩:=tk_pos I
 have a0:=lI E G J
 have a1:=nY E U X
 refine bL 12 [[],[],[1],[0,2],[3],[],[],[6],[5,7],[4,8],[],[9,10]] [33,34,35,36,37,38,39,40,41,42,43,44] [jI t,.agg #[jI d.W,jI d.H,jI d.T,jI d.R],jI (perI d),jI (t*(perI d)),jI ((t*(perI d))+7),jI dir,.pointer (some ⟨Y,0+2,none⟩),jI d.T,jI (dir*d.T),jI (((t*(perI d))+7)+(dir*d.T)),jI k,jI ((((t*(perI d))+7)+(dir*d.T))+k)] F A ?_ ?_
 exact⟨aJ,aJ,.inl ⟨A,aF A A (fun w M=>aI (eW d E w))⟩,fL A (eZ A A A AE) A,aJ,aJ,aJ,aJ,fL A (eZ A A A AE) A,aJ,aJ,aJ,trivial⟩
 simp only[drop_succ_cons,drop_zero]
 refine go ?_
 exact aT A A (by unfold wireNodeS;rw[if_pos ⟨K,O,O,O⟩];unfold wireN;rfl)
theorem nM (d:Dev) (t p:Int) (w:World) (e:tOk d t=true) (Z : -1000≤p) (p1:p≤1000) :
   Calls Tryz.prog 33 #[.agg #[.int .i64 d.W,.int .i64 d.H,.int .i64 d.T,.int .i64 d.R],.int .i64 t,.int .i64 p] w (Ans w (.int .i64 (outPinI d t p))):=by
 obtain⟨h,K,B⟩:=(fC _ _).1 e
 have M:=lI h K B
 have U:=pV h B
 refine aY (N:=24) (args:=[.agg #[jI d.W,jI d.H,jI d.T,jI d.R],jI t,jI p]) Tryz.func33 A A (dW ?_)
 refine cU A (cE A A) fun b1=>go ?_
 refine aW A A A A A A (fun X=>go ?_) (fun X=>go ?_)
 exact aT A A (by(try rw[gH e] at *);unfold outPinI;first|rw[if_pos ⟨e,O,O⟩]|rw[if_neg (by rintro ⟨D,E,G⟩;omega)])
 refine cM A (aF A A (fun w J=>aI (cQ d _ w))) (cM A (aF A A (fun w J=>aI (hH (lA _ (by rw[gH e];exact fX d t) w)))) ?_)
 refine eK A A A A A A (fun Y=>go ?_) (fun Y=>go ?_)
 exact aT A A (by(try rw[gH e] at *);unfold outPinI;first|rw[if_pos ⟨e,O,O⟩]|rw[if_neg (by rintro ⟨D,E,G⟩;omega)])
 refine cM A (aF A A (fun w J=>aI (eW d h w))) (aN A (eZ A A A AE) (go ?_))
 exact aT A A (by(try rw[gH e] at *);unfold outPinI;first|rw[if_pos ⟨e,O,O⟩]|rw[if_neg (by rintro ⟨D,E,G⟩;omega)])
def dirI (d:Dev) (p:Int):Int:=if 7≤p then (p-7) / d.T else 0
def trackI (d:Dev) (p:Int):Int:=if 7≤p then (p-7) % d.T else 0
def baseS (d:Dev) (t p:Int):List Int:=if 7≤p then (if 1<outPinsI (kindI d t) then [outPinI d t 0,outPinI d t 1] else [outPinI d t 0]) else []
def sS (d:Dev) (t p r k:Int) (xs:List Int) (s:Nat):List Int:=
  if 7≤p∧(s:Int)+1<1+k % 2 then xs else if 0≤wireNodeS d (tileStepI d t ((r+2) % 4) ((s:Int)+1)) r k then xs++[wireNodeS d (tileStepI d t ((r+2) % 4) ((s:Int)+1)) r k] else xs
def sK (d:Dev) (t p r k:Int) (xs:List Int) (j:Nat):List Int:=(List.range j).foldl (sS d t p r k) xs
theorem qC (d:Dev) (t p r k:Int) (xs:List Int) (j:Nat):sK d t p r k xs (j+1)=sS d t p r k (sK d t p r k xs j) j:=by unfold sK;rw[List.range_succ,List.foldl_append];rfl
def Skip (T p dir track r k:Int):Prop:=(7≤p∧(r=(dir+2) % 4∨(k≠track∧k≠(track+1) % T)))∨(p<7∧1<T∧(k+p) % 2=1)
instance (T p dir track r k:Int):Decidable (Skip T p dir track r k):=by unfold Skip;exact inferInstance
def sR (d:Dev) (t p dir track r:Int) (xs:List Int) (j:Nat):List Int:=(List.range j).foldl (fun xs (k:Nat)=>if Skip d.T p dir track r k then xs else sK d t p r k xs (1+k % 2)) xs
theorem oI (d:Dev) (t p dir e r:Int) (xs:List Int) (j:Nat):sR d t p dir e r xs (j+1)=if Skip d.T p dir e r j then sR d t p dir e r xs j else sK d t p r j (sR d t p dir e r xs j) (1+j % 2):=by unfold sR;rw[List.range_succ,List.foldl_append];rfl
def sO (d:Dev) (t p dir track:Int) (j:Nat):List Int:=(List.range j).foldl (fun xs (r:Nat)=>sR d t p dir track r xs d.T.toNat) (baseS d t p)
theorem Js (d:Dev) (t p dir e:Int) (j:Nat):sO d t p dir e (j+1)=sR d t p dir e j (sO d t p dir e j) d.T.toNat:=by unfold sO;rw[List.range_succ,List.foldl_append];rfl
def srcS (d:Dev) (n:Int):List Int:=if nodeOkI d n=true∧n % perI d≠5∧n % perI d≠6 then sortR (sO d (n / perI d) (n % perI d) (dirI d (n % perI d)) (trackI d (n % perI d)) 4) else []
theorem Er {d:Dev}{p:Int}(e:devB d=true) (B:0≤p) (h:p≤perI d-1):0≤dirI d p∧dirI d p≤3∧0≤trackI d p∧trackI d p≤d.T-1:=by
  obtain⟨-, -,⟨D,E⟩, -⟩:=(dI d).1 e
  unfold dirI trackI
  split
  · exact kS e I h
  · omega
theorem sV (d:Dev) (n:Int) (w:World)  :
   Calls Tryz.prog 56 #[.agg #[.int .i64 d.W,.int .i64 d.H,.int .i64 d.T,.int .i64 d.R],.int .i64 n] w (Ret w (fun v' post=>post=[rI9 3 v' (srcS d n)])):=by
 refine aY (N:=144) (args:=[.agg #[jI d.W,jI d.H,jI d.T,jI d.R],jI n]) Tryz.func56 A A (dW ?_)
 refine cU A (cE A A) ?_
 intro J
 refine bG 1 A (dW ?_)
 refine cH A (bU (s:=1) A z8 A) ?_
 intro g2
 refine bG 1 A (kE (aN A (aP (cs:=[jI d.W,jI d.H,jI d.T,jI d.R]) A A A A A (aM 1 A 0 A)) (aS 1 A ?_)))
 refine cM A (aF A A (fun w h=>aI (iZ d _ w))) (bD (fun h3=>?_) (fun h3=>?_))
 obtain⟨G,n0,n1⟩:=fN h3
 obtain⟨p0,p1,p2,p3,X⟩:=iE G n0 n1
 obtain⟨m1,m2⟩:=eM G
 obtain⟨q1,q2⟩:=fR G
 obtain⟨-, -,⟨l1,l2⟩, -⟩:=(dI d).1 G
 obtain⟨aq,ar,au,aw⟩:=Er G p2 p3
 have ax:=iQ d (n / perI d)
 refine bG 1 A (aV A (eC (aG (cN 1 A (aN A (aP (cs:=[jI d.W,jI d.H,jI d.T,jI d.R]) A A A A A (aM 1 A 0 A)) ?_)))))
 refine cM A (aF A A (fun w h=>aI (eW d G w))) (aN A (gD A A A AH) ?_)
 refine bG 1 A (aG (cN 1 A (aN A (aP (cs:=[jI d.W,jI d.H,jI d.T,jI d.R]) A A A A A (aM 1 A 0 A)) ?_)))
 refine cM A (aF A A (fun w h=>aI (eW d G w))) (aN A (fT A A A AE) (bG 1 A (aG (aG (cN 1 A ?_)))))
 refine bZ A A A A A A (fun h4=>?_) (fun h4=>?_)
 refine bG 4 A (aR A (cF 2 A ?_))
 refine cW (cK ?_)
 exact bM (post:=[rowE 3 1 (.slice (some ⟨g2,0,none⟩) 0 0) 0 ([])]) A A (eA [0] A) (by unfold srcS;first|rw[if_pos ⟨I,O,O⟩,Y,show r=4 by omega,D,E]|(rw[if_neg AJ];rfl))
 refine aS 2 A (bZ A A A A A A (fun h5=>?_) (fun h5=>?_))
 refine bG 1 A (aR A (cF 2 A ?_))
 refine cW (cK ?_)
 exact bM (post:=[rowE 3 1 (.slice (some ⟨g2,0,none⟩) 0 0) 0 ([])]) A A (eA [0] A) (by unfold srcS;first|rw[if_pos ⟨I,O,O⟩,Y,show r=4 by omega,D,E]|(rw[if_neg AJ];rfl))
 refine bG 1 A (aV A (eC (cF 1 A (aG ?_))))
 refine bP (bG 1 A ?_)
 refine uY (α:=Int) (β:=Int) (γ:=Value) (δ:=List Int) (fun dir e v xs=>[rI9 3 v xs,boxE J #[jI d.W,jI d.H,jI d.T,jI d.R] 25]) (fun dir e v xs=>[(0,.agg #[jI d.W,jI d.H,jI d.T,jI d.R]),(1,jI n),(2,pI J),(4,.slice none 0 0),(5,v),(6,jI (n / (perI d))),(7,jI (n % (perI d))),(8,jI dir),(9,jI e),(18,.bool false),(33,.bool false)]) (fun dir e v xs=>dir=dirI d (n % perI d)∧e=trackI d (n % perI d)∧xs=baseS d (n / perI d) (n % perI d)∧xs.length≤2) ?_ ?_
 refine aG (cN 1 A ?_)
 refine eK A A A A A A (fun h6=>?_) (fun h6=>?_)
 refine dL (aR A (dW (aN A (aP (cs:=[jI d.W,jI d.H,jI d.T,jI d.R]) A A A A A (aM 1 A 0 A)) (aS 1 A ?_))))
 refine cM A (aF A A (fun w h=>aI (mY d _ G n0 n1 O w))) (bG 5 A (aG (cN 1 A (aN A (aP (cs:=[jI d.W,jI d.H,jI d.T,jI d.R]) A A A A A (aM 1 A 0 A)) (aS 1 A ?_)))))
 refine cM A (aF A A (fun w h=>aI (nM d _ _ w X O O))) (cH A (aH (z:=jI 0) (s:=1) (cs:=(mI [outPinI d (n / (perI d)) 0])) A z8 A V A F A) ?_)
 intro g7
 refine bT (i:=1) (z:=jI 0) (bytes:=8) (n':=([outPinI d (n / (perI d)) 0]).length) (xs':=(mI ([outPinI d (n / (perI d)) 0]))) A A A A z8 F A A A A (aB 0 A) (bI _) AI (Nat.zero_add _) (nil_append _) (fun _=>A) ?_
 intro v8
 refine bG 1 A (dW (aN A (aP (cs:=[jI d.W,jI d.H,jI d.T,jI d.R]) A A A A A (aM 2 A 0 A)) (aS 1 A ?_)))
 refine cM A (aF A A (fun w h=>aI (cQ d _ w))) (cM A (aF A A (fun w h=>aI (hH (lA _ (by rw[gH X];exact fX d _) w)))) ?_)
 refine fJ A A A A A A (fun h9=>?_) (fun h9=>?_)
 refine dL (aR A (cN 1 A (aN A (aP (cs:=[jI d.W,jI d.H,jI d.T,jI d.R]) A A A A A (aM 2 A 0 A)) (aS 1 A ?_))))
 refine cM A (aF A A (fun w h=>aI (nM d _ _ w X O O))) (cH A (aH (z:=jI 0) (s:=1) (cs:=(mI [outPinI d (n / (perI d)) 1])) A z8 A V A F A) ?_)
 intro ay
 refine bT (i:=2) (z:=jI 0) (bytes:=8) A A A A z8 F A A A A (aB 0 A) (bI _) AI (bK ([outPinI d (n / (perI d)) 0]) ([outPinI d (n / (perI d)) 1])) (cB ([outPinI d (n / (perI d)) 0]) ([outPinI d (n / (perI d)) 1])) (fun _=>A) ?_
 intro az
 refine eS 1 A ?_
 exact iL ((n % perI d-7) / d.T) ((n % perI d-7) % d.T) _ (([outPinI d (n / (perI d)) 0])++([outPinI d (n / (perI d)) 1])) ⟨by unfold dirI;rw[if_pos O],by unfold trackI;rw[if_pos O],by unfold baseS;rw[if_pos O];rw[gH X] at *;(first|rw[if_pos O]|rw[if_neg O])<;>rfl,AI⟩ (bV rfl) (eA [2,0] rfl)
 refine dL (jQ A ?_)
 exact iL ((n % perI d-7) / d.T) ((n % perI d-7) % d.T) _ ([outPinI d (n / (perI d)) 0]) ⟨by unfold dirI;rw[if_pos O],by unfold trackI;rw[if_pos O],by unfold baseS;rw[if_pos O];rw[gH X] at *;(first|rw[if_pos O]|rw[if_neg O])<;>rfl,AI⟩ (bV rfl) (eA [1,0] rfl)
 refine dL (jQ A ?_)
 exact iL 0 0 _ ([]) ⟨by unfold dirI;rw[if_neg O],by unfold trackI;rw[if_neg O],by unfold baseS;rw[if_neg O],AI⟩ (bV rfl) (cZ rfl)
 intro dir e v xs Z
 obtain⟨D,E,hx,b0⟩:=Z
 refine aG (cF 1 A (bS ?_))
 refine fP (α:=Nat) (β:=Value) (γ:=List Int) [0,1,2,4,6,7,8,9,18,33] rfl (fun r u B=>[rI9 3 u B,boxE J #[jI d.W,jI d.H,jI d.T,jI d.R] 25]) (fun r u B=>[(5,u),(10,jI (r:Int))]) (fun r u B=>r≤4∧B=sO d (n / perI d) (n % perI d) dir e r∧B.length≤2+8*r) (fun r u B=>5-r) 0 _ xs ⟨O,by rw[hx];rfl,O⟩ (bV rfl) (cZ rfl) ?_
 intro r u B a0
 obtain⟨hr,Y,b2⟩:=a0
 refine aG (aG (cN 1 A ?_))
 refine aW A A A A A A (fun a4=>?_) (fun a4=>?_)
 refine dL (aR A (eC (jR (cF 1 A ?_))))
 refine bS ?_
 refine fP (α:=Nat) (β:=Value) (γ:=List Int) [0,1,2,4,6,7,8,9,10,18,33,61] A (fun k q zs=>[rI9 3 q zs,boxE J #[jI d.W,jI d.H,jI d.T,jI d.R] 25]) (fun k q zs=>[(5,q),(11,jI (k:Int))]) (fun k q zs=>(k:Int)≤d.T∧zs=sR d (n / perI d) (n % perI d) dir e r B k∧zs.length≤B.length+2*k) (fun k q zs=>5-k) 0 _ B ⟨O,A,AI⟩ (bV A) (cZ A) ?_
 intro k q zs a1
 obtain⟨hk,K,b3⟩:=a1
 refine aG (aG (cN 1 A (aN A (fY 2 A A A) (aN A (bJ A A A (bA 1 A A)) ?_))))
 refine aW A A A A A A (fun a5=>?_) (fun a5=>?_)
 refine dL (aR A (eC (jR ?_)))
 refine rA (α:=Unit) (fun u0=>[rI9 3 q zs,boxE J #[jI d.W,jI d.H,jI d.T,jI d.R] 25]) (fun u0=>[(0,.agg #[jI d.W,jI d.H,jI d.T,jI d.R]),(1,jI n),(2,pI J),(4,.slice none 0 0),(5,q),(6,jI (n / (perI d))),(7,jI (n % (perI d))),(8,jI dir),(9,jI e),(10,jI (r:Int)),(11,jI (k:Int)),(18,.bool false),(33,.bool false),(61,.bool true),(67,.bool true)]) (fun u0=>¬Skip d.T (n % perI d) dir e r k) ?_ ?_
 refine aG (cN 1 A ?_)
 refine eK A A A A A A (fun a6=>?_) (fun a6=>?_)
 refine aS 3 A (aN A (eY A A A) (aN A (fT A A A AE) ?_))
 refine bZ A A A A A A (fun a7=>?_) (fun a7=>?_)
 refine bG 31 A (aR A ?_)
 refine bW (dB ?_)
 refine aO (bB (cN 1 A (aN A (eY A A A) (eS 1 A ?_))))
 exact aQ (k+1) _ _ ⟨O,by rw[oI];rw[if_pos (by unfold Skip;omega)];exact K,O⟩ O (bV rfl) (cZ rfl)
 refine aS 3 A (jY A A A A A A (fun a8=>?_) (fun a8=>?_))
 refine aS 3 A (aN A (eY A A A) (aN A (fY 2 A A A) (aN A (bJ A A A (bA 1 A A)) (aN A (fT A A A AE) ?_))))
 refine jY A A A A A A (fun a9=>?_) (fun a9=>?_)
 refine bG 19 A ?_
 refine aR A (bW ?_)
 refine dB (aO ?_)
 refine bB (cN 1 A (aN A (eY A A A) (eS 1 A ?_)))
 exact aQ (k+1) _ _ ⟨O,by rw[oI];rw[if_pos (by unfold Skip;omega)];exact K,O⟩ O (bV rfl) (cZ rfl)
 refine aS 5 A (aW A A A A A A (fun aa=>?_) (fun aa=>?_))
 refine aS 1 A (aN A (fY 2 A A A) (aN A (bJ A A A (bA 1 A A)) ?_))
 refine fJ A A A A A A (fun ab=>?_) (fun ab=>?_)
 refine aS 4 A (aN A (eY A A A) (aN A (fT A A A AE) ?_))
 refine bZ A A A A A A (fun ac=>?_) (fun ac=>?_)
 refine bG 2 A (aR A ?_)
 refine bW (dB ?_)
 refine aO (bB (cN 1 A (aN A (eY A A A) (eS 1 A ?_))))
 exact aQ (k+1) _ _ ⟨O,by rw[oI];rw[if_pos (by unfold Skip;omega)];exact K,O⟩ O (bV rfl) (cZ rfl)
 refine bG 2 A (jQ A ?_)
 exact fV () (by unfold Skip;omega) (bV A) (cZ A)
 refine bG 9 A (jQ A ?_)
 exact fV () (by unfold Skip;omega) (bV A) (cZ A)
 refine bG 13 A (jQ A ?_)
 exact fV () (by unfold Skip;omega) (bV A) (cZ A)
 refine aS 13 A (aW A A A A A A (fun ad=>?_) (fun ad=>?_))
 refine aS 1 A (aN A (fY 2 A A A) (aN A (bJ A A A (bA 1 A A)) ?_))
 refine fJ A A A A A A (fun ae=>?_) (fun ae=>?_)
 refine aS 4 A (aN A (eY A A A) (aN A (fT A A A AE) ?_))
 refine bZ A A A A A A (fun af=>?_) (fun af=>?_)
 refine bG 2 A (aR A ?_)
 refine bW (dB ?_)
 refine aO (bB (cN 1 A (aN A (eY A A A) (eS 1 A ?_))))
 exact aQ (k+1) _ _ ⟨O,by rw[oI];rw[if_pos (by unfold Skip;omega)];exact K,O⟩ O (bV rfl) (cZ rfl)
 refine bG 2 A (jQ A ?_)
 exact fV () (by unfold Skip;omega) (bV A) (cZ A)
 refine bG 9 A (jQ A ?_)
 exact fV () (by unfold Skip;omega) (bV A) (cZ A)
 refine bG 13 A (jQ A ?_)
 exact fV () (by unfold Skip;omega) (bV A) (cZ A)
 refine aS 23 A (aW A A A A A A (fun ag=>?_) (fun ag=>?_))
 refine aS 1 A (aN A (fY 2 A A A) (aN A (bJ A A A (bA 1 A A)) ?_))
 refine fJ A A A A A A (fun ah=>?_) (fun ah=>?_)
 refine aS 4 A (aN A (eY A A A) (aN A (fT A A A AE) ?_))
 refine bZ A A A A A A (fun ai=>?_) (fun ai=>?_)
 refine bG 2 A (aR A ?_)
 refine bW (dB ?_)
 refine aO (bB (cN 1 A (aN A (eY A A A) (eS 1 A ?_))))
 exact aQ (k+1) _ _ ⟨O,by rw[oI];rw[if_pos (by unfold Skip;omega)];exact K,O⟩ O (bV rfl) (cZ rfl)
 refine bG 2 A (jQ A ?_)
 exact fV () (by unfold Skip;omega) (bV A) (cZ A)
 refine bG 9 A (jQ A ?_)
 exact fV () (by unfold Skip;omega) (bV A) (cZ A)
 refine bG 13 A (jQ A ?_)
 exact fV () (by unfold Skip;omega) (bV A) (cZ A)
 intro u0 a2
 have M:=a2
 refine cF 1 A (bS ?_)
 refine fP (α:=Nat) (β:=Value) (γ:=List Int) [0,1,2,4,6,7,8,9,10,11,18,33,61,67] A (fun j b cs=>[rI9 3 b cs,boxE J #[jI d.W,jI d.H,jI d.T,jI d.R] 25]) (fun j b cs=>[(5,b),(12,jI ((j:Int)+1))]) (fun j b cs=>j≤1+k % 2∧cs=sK d (n / perI d) (n % perI d) r k zs j∧cs.length≤zs.length+j) (fun j b cs=>3-j) 0 _ zs ⟨O,A,AI⟩ (bV A) (cZ A) ?_
 intro j b cs a3
 obtain⟨hj,U,b4⟩:=a3
 refine aG (aG (cN 2 A (aN A (fT A A A AE) (aN A (eY A A A) ?_))))
 refine iA A A A A A A (fun aj=>?_) (fun aj=>?_)
 refine dL (aR A (eC (jR (aG (aG (cN 1 A ?_))))))
 refine eK A A A A A A (fun ak=>?_) (fun ak=>?_)
 refine aS 3 A (aN A (fT A A A AE) (aN A (eY A A A) ?_))
 refine aW A A A A A A (fun al=>?_) (fun al=>?_)
 refine bG 1 A (aR A ?_)
 refine bW (dB ?_)
 refine aO (bB (cN 1 A (aN A (eY A A A) (eS 1 A ?_))))
 exact aQ (j+1) _ _ ⟨O,by rw[qC,←U];unfold sS;first|rw[if_pos O]|rw[if_neg O,if_pos I]|rw[if_neg O,if_neg O],by first|omega|(simp;omega)⟩ O (bV rfl) (cZ rfl)
 refine bG 1 A (aV A (eC (aG ?_)))
 refine bL 11 [[],[],[],[],[3],[4],[],[1,2,5,6],[],[],[0,7,8,9]] [125,126,127,128,129,130,131,132,133,134,135] [.agg #[jI d.W,jI d.H,jI d.T,jI d.R],.agg #[jI d.W,jI d.H,jI d.T,jI d.R],jI (n / (perI d)),jI (r:Int),jI ((r:Int)+2),jI (((r:Int)+2) % 4),jI ((j:Int)+1),jI (tileStepI d (n / (perI d)) (((r:Int)+2) % 4) ((j:Int)+1)),jI (r:Int),jI (k:Int),jI (wireNodeS d (tileStepI d (n / (perI d)) (((r:Int)+2) % 4) ((j:Int)+1)) (r:Int) (k:Int))] F A ?_ ?_
 exact⟨aJ,aJ,aJ,aJ,aJ,fL A (fT A A A AE) A,aJ,.inl ⟨A,aF A A (fun w h=>aI (iC d _ _ _ w))⟩,aJ,aJ,.inl ⟨A,aF A A (fun w h=>aI (mJ d _ _ _ w O O O O))⟩,trivial⟩
 simp only[drop_succ_cons,drop_zero]
 refine bG 1 A (aG (cN 1 A ?_))
 refine eK A A A A A A (fun am=>?_) (fun am=>?_)
 refine dL (aR A (cN 2 A ?_))
 refine cH A (aH (z:=jI 0) (s:=1) (cs:=(mI [wireNodeS d (tileStepI d (n / (perI d)) (((r:Int)+2) % 4) ((j:Int)+1)) (r:Int) (k:Int)])) A z8 A V A F A) ?_
 intro b5
 refine bT (i:=1) (z:=jI 0) (bytes:=8) A A A A z8 F A A A A (aB 0 A) (bI _) (by simp;omega) (bK cs ([wireNodeS d (tileStepI d (n / (perI d)) (((r:Int)+2) % 4) ((j:Int)+1)) (r:Int) (k:Int)])) (cB cs ([wireNodeS d (tileStepI d (n / (perI d)) (((r:Int)+2) % 4) ((j:Int)+1)) (r:Int) (k:Int)])) (fun _=>A) ?_
 intro b6
 refine eS 1 A (eB (cN 1 A (aN A (eY A A A) (eS 1 A ?_))))
 exact aQ (j+1) _ _ ⟨O,by rw[qC,←U];unfold sS;first|rw[if_pos O]|rw[if_neg O,if_pos I]|rw[if_neg O,if_neg O],by first|omega|(simp;omega)⟩ O (bV rfl) (eA [1,0] rfl)
 refine dL (jQ A (eB (cN 1 A (aN A (eY A A A) (eS 1 A ?_)))))
 exact aQ (j+1) _ _ ⟨O,by rw[qC,←U];unfold sS;first|rw[if_pos O]|rw[if_neg O,if_pos I]|rw[if_neg O,if_neg O],by first|omega|(simp;omega)⟩ O (bV rfl) (cZ rfl)
 refine bG 7 A (aV A (eC (aG ?_)))
 refine bL 11 [[],[],[],[],[3],[4],[],[1,2,5,6],[],[],[0,7,8,9]] [125,126,127,128,129,130,131,132,133,134,135] [.agg #[jI d.W,jI d.H,jI d.T,jI d.R],.agg #[jI d.W,jI d.H,jI d.T,jI d.R],jI (n / (perI d)),jI (r:Int),jI ((r:Int)+2),jI (((r:Int)+2) % 4),jI ((j:Int)+1),jI (tileStepI d (n / (perI d)) (((r:Int)+2) % 4) ((j:Int)+1)),jI (r:Int),jI (k:Int),jI (wireNodeS d (tileStepI d (n / (perI d)) (((r:Int)+2) % 4) ((j:Int)+1)) (r:Int) (k:Int))] F A ?_ ?_
 exact⟨aJ,aJ,aJ,aJ,aJ,fL A (fT A A A AE) A,aJ,.inl ⟨A,aF A A (fun w h=>aI (iC d _ _ _ w))⟩,aJ,aJ,.inl ⟨A,aF A A (fun w h=>aI (mJ d _ _ _ w O O O O))⟩,trivial⟩
 simp only[drop_succ_cons,drop_zero]
 refine bG 1 A (aG (cN 1 A ?_))
 refine eK A A A A A A (fun an=>?_) (fun an=>?_)
 refine dL (aR A (cN 2 A ?_))
 refine cH A (aH (z:=jI 0) (s:=1) (cs:=(mI [wireNodeS d (tileStepI d (n / (perI d)) (((r:Int)+2) % 4) ((j:Int)+1)) (r:Int) (k:Int)])) A z8 A V A F A) ?_
 intro b7
 refine bT (i:=1) (z:=jI 0) (bytes:=8) A A A A z8 F A A A A (aB 0 A) (bI _) (by simp;omega) (bK cs ([wireNodeS d (tileStepI d (n / (perI d)) (((r:Int)+2) % 4) ((j:Int)+1)) (r:Int) (k:Int)])) (cB cs ([wireNodeS d (tileStepI d (n / (perI d)) (((r:Int)+2) % 4) ((j:Int)+1)) (r:Int) (k:Int)])) (fun _=>A) ?_
 intro b8
 refine eS 1 A (eB (cN 1 A (aN A (eY A A A) (eS 1 A ?_))))
 exact aQ (j+1) _ _ ⟨O,by rw[qC,←U];unfold sS;first|rw[if_pos O]|rw[if_neg O,if_pos I]|rw[if_neg O,if_neg O],by first|omega|(simp;omega)⟩ O (bV rfl) (eA [1,0] rfl)
 refine dL (jQ A (eB (cN 1 A (aN A (eY A A A) (eS 1 A ?_)))))
 exact aQ (j+1) _ _ ⟨O,by rw[qC,←U];unfold sS;first|rw[if_pos O]|rw[if_neg O,if_pos I]|rw[if_neg O,if_neg O],by first|omega|(simp;omega)⟩ O (bV rfl) (cZ rfl)
 refine dL (aV A ?_)
 refine bW (fM ?_)
 refine aO (eB (cN 1 A (aN A (eY A A A) (eS 1 A ?_))))
 exact aQ (k+1) _ _ ⟨O,by rw[oI];rw[if_neg M,←K,U];congr 1;omega,O⟩ O (bV rfl) (cZ rfl)
 refine dL (aV A ?_)
 refine bW (fM ?_)
 refine aO (eB (cN 1 A (aN A (eY A A A) (eS 1 A ?_))))
 exact aQ (r+1) _ _ ⟨O,by rw[Js,←Y,K];congr 1;omega,O⟩ O (bV rfl) (cZ rfl)
 refine dL (aV A ?_)
 refine bW (fM ?_)
 refine aO (bB (aG (cN 1 A ?_)))
 refine fF A A A (aF A A (fun w h=>sI _ B w (cI (h.holds _ (cT (i:=0) A))) O)) ?_
 intro ao b9 ap
 subst ap
 refine bG 1 A ?_
 exact cW (bM (post:=[rowE 3 1 ao ((sortR B).length) (mI (sortR B))]) A A (eA [0] A) (by unfold srcS;first|rw[if_pos ⟨I,O,O⟩,Y,show r=4 by omega,D,E]|(rw[if_neg AJ];rfl)))
 refine bG 1 A (aR A (cF 2 A ?_))
 refine cW (cK ?_)
 exact bM (post:=[rowE 3 1 (.slice (some ⟨g2,0,none⟩) 0 0) 0 ([])]) A A (eA [0] A) (by unfold srcS;first|rw[if_pos ⟨I,O,O⟩,Y,show r=4 by omega,D,E]|(rw[if_neg AJ];rfl))
theorem qY (xs:List Int) (x y:Int):y∈insI xs x↔y=x∨y∈xs:=by
  induction xs with
  | nil=>simp[insI]
  | cons z zs ih=>
    simp only[insI]
    split
    · rw [List.mem_cons, ih, List.mem_cons]
      constructor
      · rintro (h | h | h)
        · exact .inr (.inl h)
        · exact .inl h
        · exact .inr (.inr h)
      · rintro (h | h | h)
        · exact .inr (.inl h)
        · exact .inl h
        · exact .inr (.inr h)
    · split
      · rename_i h;subst h;simp
      · simp
theorem nW (xs:List Int) (x:Int) (h:xs.Pairwise (· < ·)):(insI xs x).Pairwise (· < ·):=by
  induction xs with
  | nil=>simp[insI]
  | cons z zs ih=>
    rw[List.pairwise_cons] at h
    simp only[insI]
    split
    · rw [List.pairwise_cons]
      refine⟨fun y hy=>?_,ih h.2⟩
      rcases(qY _ _ _).1 hy with rfl|hy
      · assumption
      · exact h.1 y hy
    · split
      · exact List.pairwise_cons.2 h
      · rw [List.pairwise_cons]
        refine⟨fun y hy=>?_,List.pairwise_cons.2 h⟩
        rcases List.mem_cons.1 hy with rfl|hy
        · omega
        · have:=h.1 y hy;omega
theorem pD : ∀ (a b : List Int), a.Pairwise (· < ·) → b.Pairwise (· < ·) → (∀ x, x ∈ a ↔ x ∈ b) → a = b
  | [],[],_,_,_=>rfl
  | [],y::b,_,_,h=>by have:=(h y).2 (by simp);simp at this
  | x::a,[],_,_,h=>by have:=(h x).1 (by simp);simp at this
  | x::a,y::b,ha,hb,h=>by
    rw[List.pairwise_cons] at ha hb
    have hxy:x=y:=by
      rcases List.mem_cons.1 ((h x).1 (by simp)) with e|e
      · exact e
      · rcases List.mem_cons.1 ((h y).2 (by simp)) with e2 | e2
        · exact e2.symm
        · have h1 := hb.1 x e
          have h2:=ha.1 y e2
          omega
    subst hxy
    congr 1
    refine pD a b ha.2 hb.2 fun z=>?_
    constructor
    · intro hz
      have h1:=ha.1 z hz
      rcases List.mem_cons.1 ((h z).1 (by simp[hz])) with e|e
      · omega
      · exact e
    · intro hz
      have h1:=hb.1 z hz
      rcases List.mem_cons.1 ((h z).2 (by simp[hz])) with e|e
      · omega
      · exact e
theorem Ft (P:List Int) (x:Int):(insR P x).Perm (x::P):=by
  unfold insR
  refine(List.perm_middle).trans ?_
  rw[take_append_drop]
theorem pE (xs:List Int):(sortR xs).Perm xs:=by
  have:∀(xs e:List Int),(xs.foldl insR e).Perm (xs++e):=by
    intro xs
    induction xs with
    | nil=>intro e;exact .refl _
    | cons x xs ih=>
      intro e
      rw[List.foldl_cons]
      exact(ih _).trans (((Ft e x).append_left xs).trans List.perm_middle)
  simpa [sortR] using this xs []
theorem As (P:List Int) (x:Int) (h:P.Pairwise (·≤·)):(insR P x).Pairwise (·≤·):=by
  have hc:∃k,k≤P.length∧(∀j,k≤j→j<P.length→x<P.getD j 0)∧(k=0∨P.getD (k-1) 0≤x):=by
    have:∀n,n≤P.length→(∀j,n≤j→j<P.length→x<P.getD j 0)→∃k,k≤P.length∧(∀j,k≤j→j<P.length→x<P.getD j 0)∧(k=0∨P.getD (k-1) 0≤x):=by
      intro n
      induction n with
      | zero=>intro hn h1;exact⟨0,hn,h1,.inl rfl⟩
      | succ n ih=>
        intro hn h1
        by_cases hx:P.getD n 0≤x
        · exact⟨n+1,hn,h1,.inr hx⟩
        · refine ih (by omega) fun j hj hl => ?_
          by_cases e:j=n
          · subst e;omega
          · exact h1 j (by omega) hl
    exact this P.length (Nat.le_refl _) (fun j h1 h2=>by omega)
  obtain⟨k,hk,h1,h2⟩:=hc
  rw[Eh P x k hk h1 h2]
  have hlt:∀i j,i<j→j<P.length→P.getD i 0≤P.getD j 0:=by
    intro i j hij hj
    have:=List.pairwise_iff_getElem.1 h i j (by omega) hj hij
    rw[getD_eq_getElem?_getD,List.getElem?_eq_getElem (by omega),getD_eq_getElem?_getD,List.getElem?_eq_getElem hj];exact this
  rw[List.pairwise_append]
  refine⟨h.sublist (List.take_sublist _ _),List.pairwise_cons.2 ⟨fun y hy=>?_,h.sublist (List.drop_sublist _ _)⟩,fun y hy z hz=>?_⟩
  · obtain ⟨j, hj, rfl⟩ := List.mem_iff_getElem.1 hy
    rw[length_drop] at hj
    have:=h1 (k+j) (by omega) (by omega)
    rw[getD_eq_getElem?_getD,List.getElem?_eq_getElem (by omega)] at this
    have e:(P.drop k)[j]'(by simpa using hj)=P[k+j]'(by omega):=by simp
    rw[e];simp at this;omega
  · obtain ⟨j, hj, rfl⟩ := List.mem_iff_getElem.1 hy
    have hj':j<k∧j<P.length:=by rw[length_take] at hj;omega
    have ey:(P.take k)[j]=P.getD j 0:=by rw[List.getElem_take,getD_eq_getElem?_getD,List.getElem?_eq_getElem hj'.2];rfl
    have hyx:P.getD j 0≤x:=by
      rcases h2 with rfl|h2
      · omega
      · by_cases e : j = k - 1
        · subst e;exact h2
        · have:=hlt j (k-1) (by omega) (by omega);omega
    rw[ey]
    rcases List.mem_cons.1 hz with rfl|hz
    · exact hyx
    · obtain ⟨i, hi, rfl⟩ := List.mem_iff_getElem.1 hz
      rw[length_drop] at hi
      have:=h1 (k+i) (by omega) (by omega)
      rw[getD_eq_getElem?_getD,List.getElem?_eq_getElem (by omega)] at this
      have e:(P.drop k)[i]'(by simpa using hi)=P[k+i]'(by omega):=by simp
      rw[e];simp at this;omega
theorem xQ (xs:List Int):(sortR xs).Pairwise (·≤·):=by
  have:∀(xs e:List Int),e.Pairwise (·≤·)→(xs.foldl insR e).Pairwise (·≤·):=by
    intro xs
    induction xs with
    | nil=>intro e h;exact h
    | cons x xs ih=>intro e h;exact ih _ (As e x h)
  exact this xs [] .nil
theorem qA (xs:List Int) (h:xs.Nodup):(sortR xs).Pairwise (· < ·):=by
  have e:=xQ xs
  have B:(sortR xs).Pairwise (·≠·):=(pE xs).nodup_iff.2 h
  exact(e.and B).imp fun ⟨a,b⟩=>O
theorem lV {α : Type} (f : List Int → α → List Int) (P : α → Int → Prop) (hf : ∀ xs i y, y ∈ f xs i ↔ y ∈ xs ∨ P i y) : ∀ (l : List α) (xs : List Int) (y : Int), y ∈ l.foldl f xs ↔ y ∈ xs ∨ ∃ i ∈ l, P i y
  | [],xs,y=>by simp
  | i::l,xs,y=>by
    rw[List.foldl_cons,lV f P hf l,hf]
    constructor
    · rintro ((h | h) | ⟨j, hj, h⟩)
      · exact .inl h
      · exact .inr ⟨i,by simp,h⟩
      · exact .inr ⟨j,by simp[hj],h⟩
    · rintro (h | ⟨j, hj, h⟩)
      · exact .inl (.inl h)
      · rcases List.mem_cons.1 hj with rfl | hj
        · exact .inl (.inr h)
        · exact .inr ⟨j,hj,h⟩
theorem iS {α:Type}(f:List Int→α→List Int) (e:∀xs i,xs.Pairwise (· < ·)→(f xs i).Pairwise (· < ·)):∀(l:List α) (xs:List Int),xs.Pairwise (· < ·)→(l.foldl f xs).Pairwise (· < ·)
  | [],xs,h=>h
  | i::l,xs,h=>iS f e l _ (e xs i h)
theorem rB {α:Type}(f:List Int→α→List Int) (g:α→List Int) (e:∀xs i,f xs i=xs++g i):∀(l:List α) (xs:List Int),l.foldl f xs=xs++l.flatMap g
  | [],xs=>AI
  | i::l,xs=>by rw[List.foldl_cons,rB f g e l,e];simp
def Cand (d:Dev) (t r k s y:Int):Prop:=0≤stepI d t ((r+2) % 4) s∧0≤wireNodeI d (stepI d t ((r+2) % 4) s) r k∧y=wireNodeI d (stepI d t ((r+2) % 4) s) r k
theorem Hn (d:Dev) (t r k:Int) (xs:List Int) (s:Nat) (y:Int):y∈pinS d t r k xs s↔y∈xs∨Cand d t r k ((s:Int)+1) y:=by
  unfold pinS Cand
  split
  · constructor
    · exact .inl
    · rintro (h | ⟨h, _⟩)
      · exact h
      · omega
  · split
    · rw [qY]
      constructor
      · rintro (h | h)
        · exact .inr ⟨by omega,by assumption,h⟩
        · exact .inl h
      · rintro (h | ⟨_, _, h⟩)
        · exact .inr h
        · exact .inl h
    · constructor
      · exact .inl
      · rintro (h | ⟨_, h, _⟩)
        · exact h
        · omega
theorem zX (d:Dev) (t r k:Int) (xs:List Int) (s:Nat) (h:xs.Pairwise (· < ·)):(pinS d t r k xs s).Pairwise (· < ·):=by
  unfold pinS
  split
  · exact h
  · split
    · exact nW _ _ h
    · exact h
theorem zY (d:Dev) (t p:Int) (j:Nat):(pinO d t p j).Pairwise (· < ·):=by
  refine iS _ (fun xs r h=>iS _ (fun xs k h=>?_) _ _ h) _ _ .nil
  split
  · exact h
  · exact iS _ (fun xs s h=>zX d t _ _ xs s h) _ _ h
theorem zZ (d:Dev) (t p:Int) (j:Nat) (y:Int):y∈pinO d t p j↔∃r∈List.range j,∃k∈List.range d.T.toNat,¬(1<d.T∧((k:Int)+p) % 2≠0)∧∃s∈List.range (1+k % 2),Cand d t r k ((s:Int)+1) y:=by
  unfold pinO
  rw[lV (P:=fun (r:Nat) y=>∃k∈List.range d.T.toNat,¬(1<d.T∧((k:Int)+p) % 2≠0)∧∃s∈List.range (1+k % 2),Cand d t r k ((s:Int)+1) y)]
  · simp
  · intro xs r y
    unfold pinR
    rw[lV (P:=fun (k:Nat) y=>¬(1<d.T∧((k:Int)+p) % 2≠0)∧∃s∈List.range (1+k % 2),Cand d t r k ((s:Int)+1) y)]
    intro xs k y
    split
    · rename_i h;simp[h]
    · rename_i h
      unfold pinK
      rw[lV (P:=fun (s:Nat) y=>Cand d t r k ((s:Int)+1) y) _ (fun xs s y=>Hn d t r k xs s y)]
      simp only[h,not_false_eq_true,true_and]
theorem rL {d:Dev}(G:devB d=true) {f r k D e B:Int}(X:0≤r) (U:r≤3) (k0:0≤k) (jH:k≤d.T-1) (J:0≤e) (E:e≤3) (Y:0≤B) (Z:B≤d.T-1) (h:wireN d f r k=wireN d D e B):f=D∧r=e∧k=B:=by
  obtain⟨-, -,⟨l1,l2⟩, -⟩:=(dI d).1 G
  have a1:=nY G X U
  have a2:=nY G J E
  unfold wireN perI at h
  have b1:r*d.T≤3*d.T:=Int.mul_le_mul_of_nonneg_right U O
  have b2:e*d.T≤3*d.T:=Int.mul_le_mul_of_nonneg_right E O
  have hf:f=D:=by
    have K:(f*(7+4*d.T)+(7+r*d.T+k)) / (7+4*d.T)=f:=by
      rw[Int.add_comm,Int.add_mul_ediv_right _ _ O,Int.ediv_eq_zero_of_lt O O];omega
    have M:(D*(7+4*d.T)+(7+e*d.T+B)) / (7+4*d.T)=D:=by
      rw[Int.add_comm,Int.add_mul_ediv_right _ _ O,Int.ediv_eq_zero_of_lt O O];omega
    rw[←K,←M];congr 1;omega
  subst hf
  have h2:r*d.T+k=e*d.T+B:=O
  have hr:r=e:=by
    have K:(r*d.T+k) / d.T=r:=by rw[Int.add_comm,Int.add_mul_ediv_right _ _ O,Int.ediv_eq_zero_of_lt O O];omega
    have M:(e*d.T+B) / d.T=e:=by rw[Int.add_comm,Int.add_mul_ediv_right _ _ O,Int.ediv_eq_zero_of_lt O O];omega
    rw[←K,←M,h2]
  subst hr
  exact⟨rfl,rfl,O⟩
theorem mG {d:Dev}{f r k:Int}(h:0≤wireNodeI d f r k):wireNodeI d f r k=wireN d f r k:=by
  unfold wireNodeI at *
  split
  · rfl
  · rename_i hh;rw[if_neg hh] at h;omega
theorem wS_eq {d:Dev}{t r k s:Int}(ht:tOk d t=true) (r0:0≤r) (r1:r≤3) (k0:0≤k) (jH:k≤d.T-1) (s0:0≤s) (s1:s≤2) :
    wireNodeS d (tileStepI d t ((r+2) % 4) s) r k=if 0≤stepI d t ((r+2) % 4) s then wireNodeI d (stepI d t ((r+2) % 4) s) r k else -1:=by
  obtain⟨hv,_,_⟩:=(fC d t).1 ht
  rw[hJ ht (by omega) (by omega) s0 (by omega)]
  split
  · rename_i h
    have hto:=pX hv (show ¬stepI d t ((r+2) % 4) s<0 by omega)
    unfold wireNodeS wireNodeI
    rw[hJ hto r0 r1 (by omega) (by omega)]
    by_cases h2:0≤stepI d (stepI d t ((r+2) % 4) s) r (1+k % 2)
    · rw[if_pos h2,if_pos ⟨hto,k0,by omega,h2⟩]
    · rw[if_neg h2,if_neg (fun hh=>h2 hh.2.2.2)]
  · rename_i h
    unfold wireNodeS
    rw[if_neg]
    rintro ⟨h1,_⟩
    have:=(fC _ _).1 h1
    omega
def gS (d:Dev) (t p r k:Int) (s:Nat):List Int:=if 7≤p∧(s:Int)+1<1+k % 2 then [] else if 0≤wireNodeS d (tileStepI d t ((r+2) % 4) ((s:Int)+1)) r k then [wireNodeS d (tileStepI d t ((r+2) % 4) ((s:Int)+1)) r k] else []
theorem sS_app (d:Dev) (t p r k:Int) (xs:List Int) (s:Nat):sS d t p r k xs s=xs++gS d t p r k s:=by
  unfold sS gS;split
  · simp
  · split<;>simp
def gK (d:Dev) (t p dir track r:Int) (k:Nat):List Int:=if Skip d.T p dir track r k then [] else (List.range (1+k % 2)).flatMap (gS d t p r k)
theorem He (d:Dev) (t p dir e:Int) (j:Nat):sO d t p dir e j=baseS d t p++(List.range j).flatMap (fun (r:Nat)=>(List.range d.T.toNat).flatMap (gK d t p dir e r)):=by
  unfold sO
  rw[rB _ (fun (r:Nat)=>(List.range d.T.toNat).flatMap (gK d t p dir e r))]
  intro xs r
  unfold sR
  rw[rB _ (gK d t p dir e r)]
  intro xs k
  unfold gK
  split
  · simp
  · unfold sK;rw[rB _ (gS d t p r k) (fun xs s=>sS_app d t p r k xs s)]
theorem De {d:Dev}{t p r k:Int}{s:Nat}{y:Int}(ht:tOk d t=true) (r0:0≤r) (r1:r≤3) (k0:0≤k) (jH:k≤d.T-1) (s1:s≤1):y∈gS d t p r k s↔¬(7≤p∧(s:Int)+1<1+k % 2)∧Cand d t r k ((s:Int)+1) y:=by
  unfold gS Cand
  rw[wS_eq ht r0 r1 k0 jH (by omega) (by omega)]
  by_cases h1:7≤p∧(s:Int)+1<1+k % 2
  · simp[h1]
  · rw [if_neg h1]
    by_cases h2:0≤stepI d t ((r+2) % 4) ((s:Int)+1)
    · rw [if_pos h2]
      by_cases h3:0≤wireNodeI d (stepI d t ((r+2) % 4) ((s:Int)+1)) r k
      · rw[if_pos h3];simp[h1,h2,h3]
      · rw[if_neg h3];simp[h3]
    · rw[if_neg h2,if_neg (by omega)];simp[h2]
theorem Hd {d:Dev}{t p dir track:Int}{y:Int}(ht:tOk d t=true):y∈sO d t p dir track 4↔y∈baseS d t p∨∃r∈List.range 4,∃k∈List.range d.T.toNat,¬Skip d.T p dir track r k∧∃s∈List.range (1+k % 2),¬(7≤p∧(s:Int)+1<1+(k:Int) % 2)∧Cand d t r k ((s:Int)+1) y:=by
  rw[He,List.mem_append]
  have key:∀r∈List.range 4,∀k∈List.range d.T.toNat,(y∈gK d t p dir track (r:Int) k↔¬Skip d.T p dir track r k∧∃s∈List.range (1+k % 2),¬(7≤p∧(s:Int)+1<1+(k:Int) % 2)∧Cand d t r k ((s:Int)+1) y):=by
    intro r hr k hk
    rw[mem_range] at hr hk
    unfold gK
    split
    · rename_i h;simp[h]
    · rename_i h
      simp only[h,not_false_eq_true,true_and]
      rw[List.mem_flatMap]
      constructor
      · rintro ⟨s, hs, hy⟩
        have:=List.mem_range.1 hs
        exact⟨s,hs,(De ht (by omega) (by omega) (by omega) (by omega) (by omega)).1 hy⟩
      · rintro ⟨s, hs, hy⟩
        have:=List.mem_range.1 hs
        exact⟨s,hs,(De ht (by omega) (by omega) (by omega) (by omega) (by omega)).2 hy⟩
  constructor
  · rintro (h | h)
    · exact .inl h
    · obtain ⟨r, hr, h⟩ := List.mem_flatMap.1 h
      obtain⟨k,hk,h⟩:=List.mem_flatMap.1 h
      exact .inr ⟨r,hr,k,hk,(key r hr k hk).1 h⟩
  · rintro (h | ⟨r, hr, k, hk, h⟩)
    · exact .inl h
    · exact .inr (List.mem_flatMap.2 ⟨r,hr,List.mem_flatMap.2 ⟨k,hk,(key r hr k hk).2 h⟩⟩)
theorem Fd {d:Dev}(e:devB d=true) {f r k:Int}(B:0≤r) (h:r≤3) (k0:0≤k) (jH:k≤d.T-1):7≤wireN d f r k % perI d:=by
  obtain⟨-, -,⟨D,E⟩, -⟩:=(dI d).1 e
  have G:=nY e B h
  have J:r*d.T≤3*d.T:=Int.mul_le_mul_of_nonneg_right h O
  unfold wireN perI
  rw[show f*(7+4*d.T)+7+r*d.T+k=(7+r*d.T+k)+f*(7+4*d.T) by omega,Int.add_mul_emod_self_right,Int.emod_eq_of_lt O O]
  omega
theorem Kc {d:Dev}(e:devB d=true) {t p:Int}(h:0≤p) (B:p≤1):(t*perI d+5+p) % perI d=5+p:=by
  obtain⟨D,E⟩:=fR e
  rw[show t*perI d+5+p=(5+p)+t*perI d by omega,Int.add_mul_emod_self_right,Int.emod_eq_of_lt O O]
theorem Jb {d:Dev}{t p y:Int}(ht:tOk d t=true) (h:y∈baseS d t p):∃q,0≤q∧q≤1∧y=t*perI d+5+q:=by
  have ho:=iQ d t
  unfold baseS at h
  split at h
  · split at h
    · simp only [List.mem_cons, List.not_mem_nil, or_false] at h
      rcases h with rfl|rfl
      · exact⟨0,by omega,by omega,by unfold outPinI;rw[if_pos ⟨ht,by omega,by omega⟩]⟩
      · exact⟨1,by omega,by omega,by unfold outPinI;rw[if_pos ⟨ht,by omega,by omega⟩]⟩
    · simp only [List.mem_cons, List.not_mem_nil, or_false] at h
      subst h
      exact⟨0,by omega,by omega,by unfold outPinI;rw[if_pos ⟨ht,by omega,by omega⟩]⟩
  · simp at h
theorem Dj {d:Dev}{t p:Int}(ht:tOk d t=true):(baseS d t p).Nodup:=by
  have ho:=iQ d t
  unfold baseS
  split
  · split
    · rename_i h
      have e0:outPinI d t 0=t*perI d+5+0:=by unfold outPinI;rw[if_pos ⟨ht,by omega,by omega⟩]
      have e1:outPinI d t 1=t*perI d+5+1:=by unfold outPinI;rw[if_pos ⟨ht,by omega,by omega⟩]
      rw[e0,e1,List.nodup_cons]
      exact⟨by simp;omega,by simp⟩
    · simp
  · exact List.nodup_nil
theorem Gv {d:Dev}{t r s B:Int}(G:tOk d t=true) (J:0≤r) (K:r≤3) (M:0≤s) (U:s≤6) (D:0≤B) (E:B≤6) (h:0≤stepI d t r s) (e:stepI d t r s=stepI d t r B):s=B:=by
  have Z:=hJ G J K M U
  have e2:=hJ G J K D E
  have X:=(oF d t r s G J K M U O).2.1
  have Y:=(oF d t r B G J K D E O).2.1
  rw[Z] at X
  rw[e2] at Y
  rw[←X,←Y,e]
theorem zT {d:Dev}{t p dir track:Int}(ht:tOk d t=true):(sO d t p dir track 4).Nodup:=by
  obtain⟨hv,_,_⟩:=(fC d t).1 ht
  have memK:∀(r:Nat),r<4→∀(k:Nat),k<d.T.toNat→∀y,y∈gK d t p dir track r k→∃s:Nat,s<1+k % 2∧y∈gS d t p r k s:=by
    intro r hr k hk y hy
    unfold gK at hy
    split at hy
    · simp at hy
    · obtain ⟨s, hs, h⟩ := List.mem_flatMap.1 hy
      exact⟨s,List.mem_range.1 hs,h⟩
  have val:∀(r:Nat),r<4→∀(k:Nat),k<d.T.toNat→∀(s:Nat),s<1+k % 2→∀y,y∈gS d t p r k s→y=wireN d (stepI d t (((r:Int)+2) % 4) ((s:Int)+1)) r k∧0≤stepI d t (((r:Int)+2) % 4) ((s:Int)+1):=by
    intro r hr k hk s hs y hy
    obtain⟨_,c1,c2,c3⟩:=(De ht (by omega) (by omega) (by omega) (by omega) (by omega)).1 hy
    exact⟨c3.trans (mG c2),c1⟩
  rw[He]
  refine List.nodup_append.2 ⟨Dj ht,?_,?_⟩
  · refine List.pairwise_flatMap.2 ⟨fun r hr => ?_, ?_⟩
    · rw [mem_range] at hr
      refine List.pairwise_flatMap.2 ⟨fun k hk=>?_,?_⟩
      · rw [mem_range] at hk
        unfold gK
        split
        · exact .nil
        · refine List.pairwise_flatMap.2 ⟨fun s hs => ?_, ?_⟩
          · unfold gS; split
            · exact .nil
            · split
              · simp
              · exact .nil
          · refine (List.pairwise_lt_range).imp_of_mem fun {s s'} hs hs' hlt x hx y hy hxy => ?_
            rw[mem_range] at hs hs'
            obtain⟨a1,a2⟩:=val r hr k hk s hs x hx
            obtain⟨b1,b2⟩:=val r hr k hk s' hs' y hy
            obtain⟨c1,_,_⟩:=rL hv (by omega) (by omega) (by omega) (by omega) (by omega) (by omega) (by omega) (by omega) (a1.symm.trans (hxy.trans b1))
            have:=Gv ht (by omega) (by omega) (by omega) (by omega) (by omega) (by omega) a2 c1
            omega
      · refine (List.pairwise_lt_range).imp_of_mem fun {k k'} hk hk' hlt x hx y hy hxy => ?_
        rw[mem_range] at hk hk'
        obtain⟨s,hs,hx⟩:=memK r hr k hk x hx
        obtain⟨s',hs',hy⟩:=memK r hr k' hk' y hy
        obtain⟨a1,a2⟩:=val r hr k hk s hs x hx
        obtain⟨b1,b2⟩:=val r hr k' hk' s' hs' y hy
        obtain⟨_,_,c1⟩:=rL hv (by omega) (by omega) (by omega) (by omega) (by omega) (by omega) (by omega) (by omega) (a1.symm.trans (hxy.trans b1))
        omega
    · refine (List.pairwise_lt_range).imp_of_mem fun {r r'} hr hr' hlt x hx y hy hxy => ?_
      rw[mem_range] at hr hr'
      obtain⟨k,hk,hx⟩:=List.mem_flatMap.1 hx
      obtain⟨k',hk',hy⟩:=List.mem_flatMap.1 hy
      rw[mem_range] at hk hk'
      obtain⟨s,hs,hx⟩:=memK r hr k hk x hx
      obtain⟨s',hs',hy⟩:=memK r' hr' k' hk' y hy
      obtain⟨a1,a2⟩:=val r hr k hk s hs x hx
      obtain⟨b1,b2⟩:=val r' hr' k' hk' s' hs' y hy
      obtain⟨_,c1,_⟩:=rL hv (by omega) (by omega) (by omega) (by omega) (by omega) (by omega) (by omega) (by omega) (a1.symm.trans (hxy.trans b1))
      omega
  · intro x hx y hy hxy
    obtain⟨q,q0,q1,rfl⟩:=Jb ht hx
    obtain⟨r,hr,hy⟩:=List.mem_flatMap.1 hy
    obtain⟨k,hk,hy⟩:=List.mem_flatMap.1 hy
    rw[mem_range] at hr hk
    obtain⟨s,hs,hy⟩:=memK r hr k hk y hy
    obtain⟨a1,_⟩:=val r hr k hk s hs y hy
    have e1:=Kc hv (t:=t) q0 q1
    have e2:=Fd hv (f:=stepI d t (((r:Int)+2) % 4) ((s:Int)+1)) (r:=(r:Int)) (k:=(k:Int)) (by omega) (by omega) (by omega) (by omega)
    rw[←a1,←hxy,e1] at e2
    omega
theorem xI (d:Dev) (t dir track:Int) (j:Nat):(wireO d t dir track j).Pairwise (· < ·):=by
  refine iS _ (fun xs r h=>?_) _ _ (iS _ (fun xs p h=>?_) _ _ .nil)
  · unfold wireR
    split
    · exact h
    · refine iS _ (fun xs k h => ?_) _ _ h
      unfold wireW
      split
      · exact nW _ _ h
      · exact h
  · unfold outS
    split
    · exact nW _ _ h
    · exact h
theorem wK (d:Dev) (t dir track:Int) (y:Int):y∈wireO d t dir track 4↔(∃p∈List.range 2,0≤outPinI d t (p:Nat)∧y=outPinI d t (p:Nat))∨∃r∈List.range 4,¬((r:Nat):Int)=(dir+2) % 4∧∃k∈[track,(track+1) % d.T],0≤stepI d t (((r:Nat)+2) % 4) (1+k % 2)∧y=wireNodeI d (stepI d t (((r:Nat)+2) % 4) (1+k % 2)) (r:Nat) k:=by
  unfold wireO
  rw[lV (P:=fun (r:Nat) y=>¬((r:Nat):Int)=(dir+2) % 4∧∃k∈[track,(track+1) % d.T],0≤stepI d t (((r:Nat)+2) % 4) (1+k % 2)∧y=wireNodeI d (stepI d t (((r:Nat)+2) % 4) (1+k % 2)) (r:Nat) k)]
  · unfold outO
    rw[lV (P:=fun (p:Nat) y=>0≤outPinI d t (p:Nat)∧y=outPinI d t (p:Nat))]
    · simp
    · intro xs p y
      unfold outS
      split
      · rename_i h;rw[qY];simp only[h,true_and];exact Or.comm
      · rename_i h;simp[h]
  · intro xs r y
    unfold wireR
    split
    · rename_i h;simp[h]
    · rename_i h
      unfold wireK
      rw[lV (P:=fun (k:Int) y=>0≤stepI d t (((r:Nat)+2) % 4) (1+k % 2)∧y=wireNodeI d (stepI d t (((r:Nat)+2) % 4) (1+k % 2)) (r:Nat) k)]
      · simp only[h,not_false_eq_true,true_and];rfl
      · intro xs k y
        unfold wireW
        split
        · rename_i h;rw[qY];simp only[h,true_and];exact Or.comm
        · rename_i h;simp[h]
theorem Gw (d:Dev) (n:Int):srcS d n=srcI d n:=by
  unfold srcS srcI
  cases hn:nodeOkI d n with
  | false=>simp
  | true=>
    obtain⟨hv,n0,n1⟩:=fN hn
    obtain⟨p0,p1,p2,p3,ht⟩:=iE hv n0 n1
    obtain⟨-, -,⟨l1,l2⟩, -⟩:=(dI d).1 hv
    obtain⟨dg0,dg1,dg2,dg3⟩:=Er hv p2 p3
    generalize n % perI d=p at *
    generalize n / perI d=t at *
    simp only[true_and,if_true]
    by_cases h5:p<5
    · rw [if_pos ⟨by omega, by omega⟩, if_pos h5]
      refine pD _ _ (qA _ (zT ht)) (zY d t p 4) fun y=>?_
      rw[(pE _).mem_iff,Hd ht,zZ]
      have hb:baseS d t p=[]:=if_neg (by omega)
      rw[hb]
      constructor
      · rintro (h | ⟨r, hr, k, hk, hs, s, hs2, _, hc⟩)
        · simp at h
        · rw [mem_range] at hk
          exact⟨r,hr,k,by simpa using hk,fun hh=>hs (.inr ⟨by omega,hh.1,by omega⟩),s,hs2,hc⟩
      · rintro ⟨r, hr, k, hk, hs, s, hs2, hc⟩
        refine .inr ⟨r,hr,k,hk,fun hh=>?_,s,hs2,by omega,hc⟩
        rcases hh with hh|hh
        · omega
        · exact hs ⟨hh.2.1,by omega⟩
    · by_cases h7 : p < 7
      · rw[if_neg (by omega),if_neg h5,if_pos h7]
      · rw [if_pos ⟨by omega, by omega⟩, if_neg h5, if_neg h7]
        have hd:dirI d p=(p-7) / d.T:=if_pos (by omega)
        have hk:trackI d p=(p-7) % d.T:=if_pos (by omega)
        rw[hd] at dg0 dg1 ⊢
        rw[hk] at dg2 dg3 ⊢
        generalize (p-7) / d.T=dir at *
        generalize (p-7) % d.T=track at *
        have hmr:=Ed (a:=track+1) l1
        have ho:=iQ d t
        refine pD _ _ (qA _ (zT ht)) (xI d t dir track 4) fun y=>?_
        rw[(pE _).mem_iff,Hd ht,wK]
        have e0:outPinI d t 0=t*perI d+5+0:=by unfold outPinI;rw[if_pos ⟨ht,by omega,by omega⟩]
        have hpm:=lI hv (by omega) p1
        have hbase:y∈baseS d t p↔∃q∈List.range 2,0≤outPinI d t ((q:Nat):Int)∧y=outPinI d t ((q:Nat):Int):=by
          unfold baseS
          rw[if_pos (by omega)]
          have e2:List.range 2=[0,1]:=rfl
          rw[e2]
          by_cases h1:1<outPinsI (kindI d t)
          · have e1 : outPinI d t 1 = t * perI d + 5 + 1 := by unfold outPinI; rw [if_pos ⟨ht, by omega, by omega⟩]
            rw[if_pos h1]
            simp only[List.mem_cons,List.not_mem_nil,or_false,exists_eq_or_imp,exists_eq_left,Int.natCast_zero,Int.natCast_one]
            constructor
            · rintro (h | h)
              · exact .inl ⟨by omega,h⟩
              · exact .inr ⟨by omega,h⟩
            · rintro (h | h)
              · exact .inl h.2
              · exact .inr h.2
          · have e1 : outPinI d t 1 = -1 := by unfold outPinI; rw [if_neg (by rintro ⟨_, _, _⟩; omega)]
            rw[if_neg h1]
            simp only[List.mem_cons,List.not_mem_nil,or_false,exists_eq_or_imp,exists_eq_left,Int.natCast_zero,Int.natCast_one]
            constructor
            · intro h;exact .inl ⟨by omega,h⟩
            · rintro (h | h)
              · exact h.2
              · omega
        rw[hbase]
        constructor
        · rintro (h | ⟨r, hr, k, hk, hs, s, hs2, hs3, hc⟩)
          · exact .inl h
          · rw [mem_range] at hk hs2
            refine .inr ⟨r,hr,fun e=>hs (.inl ⟨by omega,.inl e⟩),(k:Int),?_,?_⟩
            · have:(k:Int)=track∨(k:Int)=(track+1) % d.T:=by
                by_cases e:(k:Int)=track
                · exact .inl e
                · by_cases e2 : (k : Int) = (track + 1) % d.T
                  · exact .inr e2
                  · exact absurd (.inl ⟨by omega,.inr ⟨e,e2⟩⟩) hs
              rcases this with e|e<;>simp[←e]
            · have es : (s : Int) + 1 = 1 + (k : Int) % 2 := by omega
              rw[es] at hc
              exact⟨hc.1,hc.2.2⟩
        · rintro (h | ⟨r, hr, hne, k, hk, h1, h2⟩)
          · exact .inl h
          · rw [mem_range] at hr
            have hkr:(k=track∨k=(track+1) % d.T):=by simpa using hk
            have hk0:0≤k∧k≤d.T-1:=by rcases hkr with e|e<;>omega
            obtain⟨m,rfl⟩:=Int.eq_ofNat_of_zero_le hk0.1
            refine .inr ⟨r,List.mem_range.2 hr,m,List.mem_range.2 (by omega),?_,m % 2,List.mem_range.2 (by omega),by omega,?_⟩
            · rintro (⟨_, hh | hh⟩ | hh)
              · exact hne hh
              · rcases hkr with e | e
                · exact hh.1 e
                · exact hh.2 e
              · omega
            · have es : ((m % 2 : Nat) : Int) + 1 = 1 + (m : Int) % 2 := by omega
              unfold Cand
              rw[es]
              refine⟨h1,?_,h2⟩
              have e1:=hJ ht (dir:=((r:Int)+2) % 4) (s:=1+(m:Int) % 2) (by omega) (by omega) (by omega) (by omega)
              have hb:=oF d t (((r:Int)+2) % 4) (1+(m:Int) % 2) ht (by omega) (by omega) (by omega) (by omega) (by omega)
              rw[e1] at hb
              have hto:=hb.2.2
              have e2:=hJ hto (dir:=((((r:Int)+2) % 4)+2) % 4) (s:=1+(m:Int) % 2) (by omega) (by omega) (by omega) (by omega)
              have er:((((r:Int)+2) % 4)+2) % 4=(r:Int):=by omega
              rw[e2,er] at hb
              unfold wireNodeI
              rw[if_pos (by rw[hb.1];omega)]
              obtain⟨hv2,f0,f1⟩:=(fC _ _).1 hto
              have g1:=lI hv2 f0 f1
              have g2:=nY hv (dir:=(r:Int)) (by omega) (by omega)
              unfold wireN
              omega
open Go.RowKit
theorem iK {α:Type}(f:List Int→α→List Int) (c:Nat) (e:∀xs a,(f xs a).length≤xs.length+c):∀(l:List α) (xs:List Int),(l.foldl f xs).length≤xs.length+l.length*c
  | [],xs=>AI
  | a::l,xs=>by
    have h:=iK f c e l (f xs a)
    have B:=e xs a
    have D:(l.length+1)*c=l.length*c+c:=by rw[Nat.add_mul,Nat.one_mul]
    simp only[List.foldl_cons,length_cons]
    omega
theorem sS_len (d:Dev) (t p r k:Int) (xs:List Int) (s:Nat):(sS d t p r k xs s).length≤xs.length+1:=by
  unfold sS;split
  · omega
  · split<;>simp
theorem sK_len (d:Dev) (t p r k:Int) (xs:List Int) (j:Nat):(sK d t p r k xs j).length≤xs.length+j:=by
  have:=iK (sS d t p r k) 1 (sS_len d t p r k) (List.range j) xs
  rw[List.length_range] at this
  unfold sK;omega
theorem sR_len (d:Dev) (t p dir e r:Int) (xs:List Int) (j:Nat):(sR d t p dir e r xs j).length≤xs.length+j*2:=by
  have:=iK (fun xs (k:Nat)=>if Skip d.T p dir e r k then xs else sK d t p r k xs (1+k % 2)) 2 (fun xs k=>by
    show(if Skip d.T p dir e r k then xs else sK d t p r k xs (1+k % 2)).length≤_
    have:=sK_len d t p r k xs (1+k % 2)
    split<;>omega) (List.range j) xs
  rw[List.length_range] at this
  exact this
theorem sO_len (d:Dev) (t p dir e:Int) (j:Nat):(sO d t p dir e j).length≤(baseS d t p).length+j*(d.T.toNat*2):=by
  have:=iK (fun xs (r:Nat)=>sR d t p dir e r xs d.T.toNat) (d.T.toNat*2) (fun xs r=>sR_len d t p dir e r xs d.T.toNat) (List.range j) (baseS d t p)
  rw[List.length_range] at this
  exact this
theorem tV (d:Dev) (n:Int):(srcI d n).length≤1000:=by
  rw[←Gw]
  unfold srcS
  split
  · rename_i h
    obtain⟨hv, -, -⟩:=fN h.1
    obtain⟨-, -,⟨l1,l2⟩, -⟩:=(dI d).1 hv
    rw[mL]
    have h1:=sO_len d (n / perI d) (n % perI d) (dirI d (n % perI d)) (trackI d (n % perI d)) 4
    have h2:(baseS d (n / perI d) (n % perI d)).length≤2:=by
      unfold baseS
      split
      · split<;>simp
      · simp
    omega
  · simp
theorem Bv {d:Dev}{t dir k:Int}(J:tOk d t=true) (K:0≤dir) (M:dir≤3) (k0:0≤k) (jH:k≤d.T-1) (U:0≤stepI d t dir (1+k % 2)) :
    0≤wireN d t dir k∧wireN d t dir k≤allI d-1∧wireN d t dir k / perI d=t∧7≤wireN d t dir k % perI d∧(wireN d t dir k % perI d-7) / d.T=dir∧(wireN d t dir k % perI d-7) % d.T=k∧nodeOkI d (wireN d t dir k)=true:=by
  obtain⟨h,X,Y⟩:=(fC d t).1 J
  obtain⟨-, -,⟨Z,l2⟩, -⟩:=(dI d).1 h
  have e9:0≤dir*d.T∧dir*d.T≤3*d.T:=⟨Int.mul_nonneg K O,Int.mul_le_mul_of_nonneg_right M O⟩
  have hp:perI d=7+4*d.T:=rfl
  have e:wireN d t dir k=t*perI d+(7+dir*d.T+k):=by unfold wireN;omega
  obtain⟨B,D⟩:=wI (W:=perI d) (x:=7+dir*d.T+k) (y:=t) O O O
  obtain⟨E,G⟩:=wI (W:=d.T) (x:=k) (y:=dir) O k0 O
  have e8:0≤t*perI d:=Int.mul_nonneg X O
  have e7:t*perI d≤(d.W*d.H-1)*perI d:=Int.mul_le_mul_of_nonneg_right Y O
  have e6:(d.W*d.H-1)*perI d=allI d-perI d:=by rw[Int.sub_mul,Int.one_mul];rfl
  rw[e,B,D,show 7+dir*d.T+k-7=dir*d.T+k by omega,E,G]
  refine⟨O,O,rfl,O,rfl,rfl,?_⟩
  rw[oN h (gL O O),B,D,pN O,show 7+dir*d.T+k-7=dir*d.T+k by omega,E,G,decide_eq_true U]
theorem gY (d:Dev) (Y:devB d=true) (w:World) :
    Calls Tryz.prog 73 #[.agg #[.int .i64 d.W,.int .i64 d.H,.int .i64 d.T,.int .i64 d.R]] w fun e Z=>e=.returned (.int .i64 (allI d))∧Below w.heap.size w Z:=by
  have h:=cY w d
  have G:=Lib.hid h
  go_enter Tryz.func73,Tryz.ntmps73
  go_wp2_with fail
  refine(eD d _).mono ?_
  rintro e w1 ⟨rfl,hb1⟩
  have B:=bX G.out hb1
  have J:=Lib.hid B
  clear h
  obtain⟨E,M,U,X, -⟩:=B
  clear hb1
  have a0:w.heap.size<w1.heap.size:=World.block_lt_of_cell? _ _ E
  go_wp2_with fail
  refine(kV d Y _).mono ?_
  rintro e w2 ⟨rfl,hb2⟩
  have D:=bX J.out hb2
  have K:=Lib.hid D
  clear E M U X
  obtain⟨E,M,U,X, -⟩:=D
  clear hb2
  have a1:w.heap.size<w2.heap.size:=World.block_lt_of_cell? _ _ E
  go_wp2
  go_ret
  exact⟨rfl,eR K.out⟩
theorem tU {d:Dev}{t r s:Int}(G:tOk d t=true) (J:0≤r) (K:r≤3) (e:0≤s) (B:s≤6) (h:0≤stepI d t r s):stepI d (stepI d t r s) ((r+2) % 4) s=t∧tOk d (stepI d t r s)=true:=by
  have M:=hJ G J K e B
  obtain⟨D,_,E⟩:=oF d t r s G J K e B O
  rw[M] at D E
  rw[hJ E O O e B] at D
  exact⟨D,E⟩
def Loc (d:Dev) (k y:Int):Prop:=nodeOkI d y=true∧((5≤y % perI d∧y % perI d<7∧y / perI d=k / perI d∧7≤k % perI d)∨
  (7≤y % perI d∧∃s:Int,1≤s∧s≤1+(y % perI d-7) % d.T % 2∧stepI d (y / perI d) ((y % perI d-7) / d.T) s=k / perI d∧(7≤k % perI d→s=1+(y % perI d-7) % d.T % 2∧(y % perI d-7) / d.T≠((k % perI d-7) / d.T+2) % 4)))
theorem Aj {d:Dev}{k r q s:Int}(D:tOk d (k / perI d)=true) (E:0≤r) (G:r≤3) (J:0≤q) (K:q≤d.T-1) (M:1≤s) (U:s≤1+q % 2) (X:0≤stepI d (k / perI d) ((r+2) % 4) s)
    (Y:0≤stepI d (stepI d (k / perI d) ((r+2) % 4) s) r (1+q % 2)) (Z:7≤k % perI d→s=1+q % 2∧r≠((k % perI d-7) / d.T+2) % 4):Loc d k (wireN d (stepI d (k / perI d) ((r+2) % 4) s) r q):=by
  obtain⟨e,b2⟩:=tU D (show 0≤(r+2) % 4 by omega) O (show 0≤s by omega) O X
  rw[show((r+2) % 4+2) % 4=r by omega] at e
  obtain⟨v0,v1,v2,v3,h,B,v6⟩:=Bv b2 E G J K Y
  refine⟨v6,.inr ⟨v3,s,M,?_,?_,?_⟩⟩
  · rw[B];exact U
  · rw[v2,h];exact e
  · rw[h,B];exact Z
theorem Kh {d:Dev}{k p:Int}(ht:tOk d (k / perI d)=true) (hk:7≤k % perI d) (p0:0≤p) (h:0≤outPinI d (k / perI d) p):Loc d k (outPinI d (k / perI d) p):=by
  obtain⟨hv,t0,t1⟩:=(fC _ _).1 ht
  obtain⟨q1,q2⟩:=fR hv
  obtain⟨o1,o2⟩:=iQ d (k / perI d)
  unfold outPinI at *
  split at h
  · rename_i hh
    rw[if_pos hh]
    obtain⟨-,h2,h3⟩:=hh
    obtain⟨f1,f2⟩:=wI (W:=perI d) (x:=5+p) (y:=k / perI d) (by omega) (by omega) (by omega)
    have e:k / perI d*perI d+5+p=k / perI d*perI d+(5+p):=by omega
    have m:=lI hv t0 t1
    have e7:k / perI d*perI d≤(d.W*d.H-1)*perI d:=Int.mul_le_mul_of_nonneg_right t1 (by omega)
    have e6:(d.W*d.H-1)*perI d=allI d-perI d:=by rw[Int.sub_mul,Int.one_mul];rfl
    rw[e]
    refine⟨?_,.inl ⟨by omega,by omega,f2,hk⟩⟩
    rw[oN hv (gL (by omega) (by omega)),f2,f1,rU (by omega) (by omega)]
    exact decide_eq_true (by omega)
  · omega
theorem Ds {d:Dev}{k:Int}(hv:devB d=true) (n0:0≤k) (n1:k≤allI d-1):∀y∈srcI d k,Loc d k y:=by
  obtain⟨p0,p1,p2,p3,ht⟩:=iE hv n0 n1
  obtain⟨-, -,⟨l1,l2⟩, -⟩:=(dI d).1 hv
  intro y hy
  unfold srcI at hy
  split at hy
  · split at hy
    · rw [zZ] at hy
      obtain⟨r,hr,q,hq, -,s,hs,c1,c2,c3⟩:=hy
      rw[mem_range] at hr hq hs
      have hw:=mG c2
      subst c3
      rw[hw]
      refine Aj ht (by omega) (by omega) (by omega) (by omega) (by omega) (by omega) c1 ?_ (fun h=>absurd h (by omega))
      unfold wireNodeI at c2
      split at c2
      · assumption
      · omega
    · split at hy
      · cases hy
      · obtain ⟨dg0, dg1, dg2, dg3⟩ := kS hv (by omega) p3
        rw[wK] at hy
        rcases hy with⟨p,hp,c1,rfl⟩|⟨r,hr,hne,q,hq,c1,rfl⟩
        · exact Kh ht (by omega) (by omega) c1
        · rw [mem_range] at hr
          have hq':0≤q∧q≤d.T-1:=by
            rcases List.mem_cons.1 hq with rfl|hq
            · exact⟨dg2,dg3⟩
            · rw [mem_singleton] at hq
              subst hq
              have:=Int.emod_nonneg ((k % perI d-7) % d.T+1) (show d.T≠0 by omega)
              have:=Int.emod_lt_of_pos ((k % perI d-7) % d.T+1) (show 0<d.T by omega)
              omega
          obtain⟨b1,b2⟩:=tU ht (show 0≤((r:Int)+2) % 4 by omega) (by omega) (show 0≤1+q % 2 by omega) (by omega) c1
          rw[show(((r:Int)+2) % 4+2) % 4=r by omega] at b1
          have h2:0≤stepI d (stepI d (k / perI d) (((r:Int)+2) % 4) (1+q % 2)) r (1+q % 2):=by omega
          unfold wireNodeI
          rw[if_pos h2]
          exact Aj ht (by omega) (by omega) hq'.1 hq'.2 (by omega) (by omega) c1 h2 (fun _=>⟨rfl,hne⟩)
  · cases hy
theorem Bb {α:Type}(f:List Int→α→List Int) (c:α→Nat) (e:∀xs a,(f xs a).length≤xs.length+c a):∀(l:List α) (xs:List Int),(l.foldl f xs).length≤xs.length+(l.map c).sum
  | [],xs=>AI
  | a::l,xs=>by
    have h:=Bb f c e l (f xs a)
    have B:=e xs a
    simp only[List.foldl_cons,map_cons,List.sum_cons]
    omega
theorem Ho (d:Dev) (t p r:Int) (xs:List Int) (l1:1≤d.T) (l2:d.T≤4):(pinR d t p r xs d.T.toNat).length≤xs.length+4:=by
  have h:=Bb (fun xs (k:Nat)=>if 1<d.T∧((k:Int)+p) % 2≠0 then xs else pinK d t r k xs (1+k % 2)) (fun k=>if 1<d.T∧((k:Int)+p) % 2≠0 then 0 else 1+k % 2) (fun xs k=>by
    split
    · omega
    · have:=iK (pinS d t r k) 1 (fun xs s=>by
        unfold pinS
        split
        · omega
        · split
          · exact iH _ _
          · omega) (List.range (1+k % 2)) xs
      rw[List.length_range] at this
      unfold pinK;omega) (List.range d.T.toNat) xs
  have h2:((List.range d.T.toNat).map (fun (k:Nat)=>if 1<d.T∧((k:Int)+p) % 2≠0 then 0 else 1+k % 2)).sum≤4:=by
    obtain e|e|e|e:d.T=1∨d.T=2∨d.T=3∨d.T=4:=by omega
    · rw [show List.range d.T.toNat = [0] by rw [e]; rfl]
      simp only[map_cons,map_nil,List.sum_cons,List.sum_nil]
      (repeat' split)<;>omega
    · rw [show List.range d.T.toNat = [0, 1] by rw [e]; rfl]
      simp only[map_cons,map_nil,List.sum_cons,List.sum_nil]
      (repeat' split)<;>omega
    · rw [show List.range d.T.toNat = [0, 1, 2] by rw [e]; rfl]
      simp only[map_cons,map_nil,List.sum_cons,List.sum_nil]
      (repeat' split)<;>omega
    · rw [show List.range d.T.toNat = [0, 1, 2, 3] by rw [e]; rfl]
      simp only[map_cons,map_nil,List.sum_cons,List.sum_nil]
      (repeat' split)<;>omega
  exact Nat.le_trans h (by omega)
theorem oG (d:Dev) (k:Int):(srcI d k).length≤16:=by
  unfold srcI
  split
  · rename_i h
    obtain⟨hv, -, -⟩:=fN h
    obtain⟨-, -,⟨l1,l2⟩, -⟩:=(dI d).1 hv
    split
    · have := iK (fun xs (r : Nat) => pinR d (k / perI d) (k % perI d) r xs d.T.toNat) 4 (fun xs r => Ho d _ _ _ xs l1 l2) (List.range 4) []
      simpa [pinO] using this
    · split
      · simp
      · have h1:=iK (wireR d (k / perI d) ((k % perI d-7) / d.T) ((k % perI d-7) % d.T)) 2 (fun xs r=>by
          unfold wireR
          split
          · omega
          · have:=iK (wireW d (k / perI d) r) 1 (fun xs q=>by
              unfold wireW
              split
              · exact iH _ _
              · omega) ([(k % perI d-7) % d.T,((k % perI d-7) % d.T+1) % d.T].take 2) xs
            unfold wireK
            simpa using this) (List.range 4) (outO d (k / perI d) 2)
        have h2:=iK (outS d (k / perI d)) 1 (fun xs q=>by
          unfold outS
          split
          · exact iH _ _
          · omega) (List.range 2) []
        have h2':(outO d (k / perI d) 2).length≤2:=by simpa [outO] using h2
        have h1':(wireO d (k / perI d) ((k % perI d-7) / d.T) ((k % perI d-7) % d.T) 4).length≤(outO d (k / perI d) 2).length+8:=by simpa [wireO] using h1
        omega
  · simp
theorem Ca (d:Dev) (k:Int) (h:nodeOkI d k≠true):srcI d k=[]:=if_neg h
open Go.RowKit
theorem Ks (xs:List Int) (x:Int) (h:∀i,i<xs.length→xs.getD i 0≠x):hasB xs x=false:=by
  unfold hasB
  rw[Bool.eq_false_iff]
  intro e
  rw[List.contains_iff_mem] at e
  obtain⟨i,B,D⟩:=List.mem_iff_getElem.1 e
  have:=h i B
  rw[getD_eq_getElem?_getD,List.getElem?_eq_getElem B] at this
  exact this D
theorem Kt (xs:List Int) (x:Int) (i:Nat) (e:i<xs.length) (h:xs.getD i 0=x):hasB xs x=true:=by
  unfold hasB
  rw[List.contains_iff_mem]
  rw[getD_eq_getElem?_getD,List.getElem?_eq_getElem e] at h
  rw[←h];exact List.getElem_mem e
open Go.RowKit
def reachS (d:Dev) (n:Int):List Int:=if nodeOkI d n=true∧7≤n % perI d then reachN d (n / perI d) ((n % perI d-7) / d.T) (1+(n % perI d-7) % d.T % 2).toNat else []
def isWireI (d:Dev) (n:Int):Bool:=nodeOkI d n&&decide (7≤n % perI d)
def inPinI (d:Dev) (t p:Int):Int:=if tOk d t=true∧0≤p∧p≤inPinsI (kindI d t)-1 then t*perI d+p else -1
theorem uV (d:Dev) (t:Int):1≤inPinsI (kindI d t)∧inPinsI (kindI d t)≤5:=by
  rcases fX d t with h|h|h<;>rw[h]<;>simp[inPinsI]
theorem Bw (d:Dev) (n:Int) (w:World) (h:devB d=true) (G:0≤n) (J:n≤allI d-1) :
   Calls Tryz.prog 83 #[.agg #[.int .i64 d.W,.int .i64 d.H,.int .i64 d.T,.int .i64 d.R],.int .i64 n] w (Ans w (.tuple #[.int .i64 (n / perI d),.int .i64 ((n % perI d-7).tdiv d.T),.int .i64 ((n % perI d-7).tmod d.T),.bool (decide (7≤n % perI d))])):=by
 obtain⟨K,M,U,X,Y⟩:=iE h G J
 obtain⟨Z,m2⟩:=eM h
 obtain⟨q1,q2⟩:=fR h
 obtain⟨-, -,⟨l1,l2⟩, -⟩:=(dI d).1 h
 refine aY (N:=29) (args:=[.agg #[jI d.W,jI d.H,jI d.T,jI d.R],jI n]) Tryz.func83 A A (dW ?_)
 refine cU A (cE A A) fun D=>go ?_
 refine cM A (aF A A (fun w E=>aI (gT d _ h G O w))) (go ?_)
 rcases eq_false_or_eq_true (decide (7≤n % perI d)) with e|e
 have B:7≤n % perI d:=of_decide_eq_true e
 refine kR _ [9,8,7,2,1,0] A ?_
 refine bL 16 [[],[],[1],[],[3],[2,4],[],[6],[],[8],[7,9],[],[11],[0],[5],[10]] [16,17,18,19,20,21,22,23,24,25,26,27,28,4,5,6] [jI (n / perI d),jI (n % perI d),jI ((n % perI d)-7),.pointer (some ⟨D,0+2,none⟩),jI d.T,jI (Int.tdiv ((n % perI d)-7) d.T),jI (n % perI d),jI ((n % perI d)-7),.pointer (some ⟨D,0+2,none⟩),jI d.T,jI (Int.tmod ((n % perI d)-7) d.T),jI (n % perI d),.bool true,jI (n / perI d),jI (Int.tdiv ((n % perI d)-7) d.T),jI (Int.tmod ((n % perI d)-7) d.T)] F A ?_ ?_
 exact⟨aJ,aJ,aJ,aJ,aJ,fL A (xU A A A O) A,aJ,aJ,aJ,aJ,fL A (xT A A A O) A,aJ,aJ,aJ,aJ,aJ,trivial⟩
 simp only[drop_succ_cons,drop_zero]
 refine go ?_
 exact fU (rs:=[.tmp 4,.tmp 5,.tmp 6,.tmp 7]) (vs:=[_,_,_,_]) A ⟨A,A,A,A,trivial⟩ A (fun w E=>⟨by first|(rw[decide_eq_true (show 7≤n % perI d by omega)];rfl)|(rw[decide_eq_false (show ¬7≤n % perI d by omega)];rfl),E.bel⟩)
 have B:¬(7≤n % perI d):=of_decide_eq_false e
 refine kR _ [9,8,7,2,1,0] A ?_
 refine bL 16 [[],[],[1],[],[3],[2,4],[],[6],[],[8],[7,9],[],[11],[0],[5],[10]] [16,17,18,19,20,21,22,23,24,25,26,27,28,4,5,6] [jI (n / perI d),jI (n % perI d),jI ((n % perI d)-7),.pointer (some ⟨D,0+2,none⟩),jI d.T,jI (Int.tdiv ((n % perI d)-7) d.T),jI (n % perI d),jI ((n % perI d)-7),.pointer (some ⟨D,0+2,none⟩),jI d.T,jI (Int.tmod ((n % perI d)-7) d.T),jI (n % perI d),.bool false,jI (n / perI d),jI (Int.tdiv ((n % perI d)-7) d.T),jI (Int.tmod ((n % perI d)-7) d.T)] F A ?_ ?_
 exact⟨aJ,aJ,aJ,aJ,aJ,fL A (xU A A A O) A,aJ,aJ,aJ,aJ,fL A (xT A A A O) A,aJ,aJ,aJ,aJ,aJ,trivial⟩
 simp only[drop_succ_cons,drop_zero]
 refine go ?_
 exact fU (rs:=[.tmp 4,.tmp 5,.tmp 6,.tmp 7]) (vs:=[_,_,_,_]) A ⟨A,A,A,A,trivial⟩ A (fun w E=>⟨by first|(rw[decide_eq_true (show 7≤n % perI d by omega)];rfl)|(rw[decide_eq_false (show ¬7≤n % perI d by omega)];rfl),E.bel⟩)
theorem Da (d:Dev) (n:Int) (w:World)  :
   Calls Tryz.prog 53 #[.agg #[.int .i64 d.W,.int .i64 d.H,.int .i64 d.T,.int .i64 d.R],.int .i64 n] w (Ans w (.bool (isWireI d n))):=by
 refine aY (N:=22) (args:=[.agg #[jI d.W,jI d.H,jI d.T,jI d.R],jI n]) Tryz.func53 A A (dW ?_)
 refine cU A (cE A A) ?_
 intro J
 refine bG 1 A (kE (aN A (aP (cs:=[jI d.W,jI d.H,jI d.T,jI d.R]) A A A A A (aM 0 A 0 A)) (aS 1 A ?_)))
 refine cM A (aF A A (fun w E=>aI (gO d _ w))) (bD (fun h=>?_) (fun h=>?_))
 obtain⟨e,B,D⟩:=fN h
 obtain⟨K,M,U,X,Y⟩:=iE e B D
 obtain⟨Z,m2⟩:=eM e
 obtain⟨q1,q2⟩:=fR e
 obtain⟨-, -,⟨l1,l2⟩, -⟩:=(dI d).1 e
 refine bG 1 A (aV A (eC (dW (aN A (aP (cs:=[jI d.W,jI d.H,jI d.T,jI d.R]) A A A A A (aM 0 A 0 A)) (aS 1 A ?_)))))
 refine cM A (aF A A (fun w E=>aI (Bw d _ w e B D))) (aS 5 A ?_)
 refine bD (fun G=>?_) (fun G=>?_)
 refine bG 4 A (cF 2 A ?_)
 exact cW (aT A A (by unfold isWireI;simp[*]))
 refine bG 4 A (cF 2 A ?_)
 exact cW (aT A A (by unfold isWireI;simp[*]))
 refine bG 1 A (aR A (cF 1 A ?_))
 refine cW (cK ?_)
 exact aT A A (by unfold isWireI;simp[*])
theorem uU {d:Dev}{n:Int}(h:isWireI d n=true):devB d=true∧0≤n∧n≤allI d-1∧7≤n % perI d∧nodeOkI d n=true:=by
  unfold isWireI at h
  rw[and_eq_true,decide_eq_true_eq] at h
  obtain⟨a,b,c⟩:=fN h.1
  exact⟨a,b,c,h.2,h.1⟩
theorem Fu (d:Dev) (t p:Int) (w:World) (Y : -1000≤p) (Z:p≤1000) :
   Calls Tryz.prog 69 #[.agg #[.int .i64 d.W,.int .i64 d.H,.int .i64 d.T,.int .i64 d.R],.int .i64 t,.int .i64 p] w (Ans w (.int .i64 (inPinI d t p))):=by
 refine aY (N:=27) (args:=[.agg #[jI d.W,jI d.H,jI d.T,jI d.R],jI t,jI p]) Tryz.func69 A A (dW ?_)
 refine cU A (cE A A) fun b1=>go ?_
 refine cM A (aF A A (fun w h=>aI (jX d _ w))) (bD (fun J=>go ?_) (fun J=>go ?_))
 obtain⟨B,D,e⟩:=(fC _ _).1 J
 have K:=uV d t
 have M:=lI B D e
 have U:=pV B e
 refine cM A (aF A A (fun w h=>aI (iN d _ B O O w))) (cM A (aF A A (fun w h=>aI (hH (uW _ (fX d _) w)))) (go ?_))
 refine cM A (aF A A (fun w h=>aI (hH (cS _ _ _ w)))) ?_
 refine bD (fun E=>go ?_) (fun E=>go ?_)
 obtain⟨G,X⟩:=(dA _ _ _).1 E
 refine cM A (aF A A (fun w h=>aI (jN d B w))) (aN A (eZ A A A AE) (go ?_))
 exact aT A A (by unfold inPinI;first|rw[if_pos ⟨I,O,O⟩]|rw[if_neg AJ])
 have G:=Ek E
 exact aT A A (by unfold inPinI;first|rw[if_pos ⟨I,O,O⟩]|rw[if_neg AJ])
 exact aT A A (by unfold inPinI;first|rw[if_pos ⟨I,O,O⟩]|rw[if_neg AJ])
open Go.RowKit
section
variable {P:Program}{N:Nat}{w0:World}{l:List HP}{env:List (Nat×Value)}{o:Oper}
theorem Jt {t:Array TypeId}{x y:Operand}{m n:Int}(D:o.op=.call { callee:=.builtin .min,args:=#[x,y],argTypes:=t }) (E:ev env x=some (.int .i64 m)) (G:ev env y=some (.int .i64 n)):RunV P N w0 l env o (.int .i64 (if n<m then n else m)):=fun a w B=>by
  have J:∀(e:Array TypeId) (ty:TypeId) (cs:Array Bool) (args:Array Value),builtin .min e ty cs args=(do pure (.value (←Builtin.min_ e ty args))):=fun _ _ _ _=>rfl
  have h:=run_min_int2 (P:=P) w t o.type .i64 .i64 m n
  simp only[execOp,D,resolve,invoke,J,Sem.run_bind,Sem.run_pure,Result.andThen_ok,List.map_toArray,map_cons,map_nil,B.eval E,B.eval G,h,GT.gt]
end
structure Rt where
  nv:Value
  fv:Value
  ns:List Int
  fs:List Int
abbrev rt0:Rt:=⟨.slice none 0 0,.slice none 0 0,[],[]⟩
def Rt.cells (r:Rt):List Value:=[r.nv,r.fv]
abbrev Rt.agg (r:Rt):Value:=.agg #[r.nv,r.fv]
abbrev rtE (r:Rt):HP:=bigE [rI9 3 r.nv r.ns,rI9 3 r.fv r.fs]
structure RdsRt (w:World) (v:Value) (rs:List Rt):Prop where
  row:RdsW w v 2 rs.length (rs.flatMap Rt.cells)
  ns:∀r∈rs,RdsW w r.nv 1 r.ns.length (r.ns.map (Value.int .i64))
  fs:∀r∈rs,RdsW w r.fv 1 r.fs.length (r.fs.map (Value.int .i64))
theorem RdsRt.nat {w:World}{v:Value}{rs:List Rt}(h:RdsRt w v rs) {k:Nat}(e:k<rs.length):RdsW w (rs.getD k rt0).nv 1 (rs.getD k rt0).ns.length ((rs.getD k rt0).ns.map (Value.int .i64)):=by
  apply h.ns
  rw[getD_eq_getElem?_getD,List.getElem?_eq_getElem e];exact List.getElem_mem e
theorem RdsRt.fat {w:World}{v:Value}{rs:List Rt}(h:RdsRt w v rs) {k:Nat}(e:k<rs.length):RdsW w (rs.getD k rt0).fv 1 (rs.getD k rt0).fs.length ((rs.getD k rt0).fs.map (Value.int .i64)):=by
  apply h.fs
  rw[getD_eq_getElem?_getD,List.getElem?_eq_getElem e];exact List.getElem_mem e
def cntI (rs:List Rt) (k:Nat):Int:=((rs.filter fun r=>r.ns.contains (k:Int)).length:Int)
def useL (N:Nat) (rs:List Rt):List Int:=(List.range N).map (cntI rs)
def useJ (N:Nat) (rs:List Rt) (ns:List Int) (j:Nat):List Int:=(List.range N).map fun k=>cntI rs k+if (ns.take j).contains (k:Int)=true then 1 else 0
structure NsOk (N:Nat) (ns:List Int):Prop where
  nd:ns.Nodup
  rng:∀x∈ns,0≤x∧x<N
  len:ns.length≤1000000
theorem nE {α:Type}(f:Nat→α) (d:α) {N k:Nat}(h:k<N):((List.range N).map f).getD k d=f k:=by
  rw[getD_eq_getElem?_getD,List.getElem?_map,List.getElem?_range h];rfl
theorem xK (N:Nat) (rs:List Rt):(useL N rs).length=N:=by simp[useL]
theorem zJ (N:Nat) (rs:List Rt) (e:List Int) (j:Nat):(useJ N rs e j).length=N:=by simp[useJ]
theorem Bx {N:Nat}(rs:List Rt) {k:Nat}(h:k<N):(useL N rs).getD k 0=cntI rs k:=nE _ _ h
theorem zB (rs:List Rt) (k:Nat):0≤cntI rs k∧cntI rs k≤rs.length:=by
  unfold cntI
  have:=List.length_filter_le (fun r:Rt=>r.ns.contains (k:Int)) rs
  omega
theorem Jg (N:Nat):replicate N (0:Int)=useL N []:=by
  unfold useL
  apply List.ext_getElem AI
  intro i e h
  simp[cntI]
theorem Gn (N:Nat) (rs:List Rt) (e:List Int):useJ N rs e 0=useL N rs:=by
  unfold useJ useL;simp
theorem Gp (N:Nat) (rs:List Rt) (r:Rt):useJ N rs r.ns r.ns.length=useL N (rs++[r]):=by
  unfold useJ useL
  congr 1;funext k
  unfold cntI
  rw[take_length,List.filter_append,length_append]
  by_cases h:r.ns.contains (k:Int)=true
  · rw[if_pos h,List.filter_cons_of_pos (p:=fun r:Rt=>r.ns.contains (k:Int)) h];rfl
  · rw[if_neg h,List.filter_cons_of_neg (p:=fun r:Rt=>r.ns.contains (k:Int)) h];simp
theorem mX (e:List Int) {j:Nat}(h:j<e.length):e.take (j+1)=e.take j++[e.getD j 0]:=by
  rw[List.take_succ_eq_append_getElem h,getD_eq_getElem?_getD,List.getElem?_eq_getElem h];rfl
theorem Fe {N:Nat}(rs:List Rt) {ns:List Int}(h:NsOk N ns) {j:Nat}(hj:j<ns.length) :
    (useJ N rs ns j).set (ns.getD j 0).toNat ((useJ N rs ns j).getD (ns.getD j 0).toNat 0+1)=useJ N rs ns (j+1):=by
  have hr:=h.rng (ns.getD j 0) (eN hj)
  have hnd:¬ns.getD j 0∈ns.take j:=by
    have h1:=h.nd
    rw[←take_append_drop (j+1) ns,mX ns hj,List.append_assoc,List.nodup_append] at h1
    intro hc
    exact h1.2.2 _ hc _ (by simp) rfl
  generalize hx:ns.getD j 0=x at *
  apply List.ext_getElem (by simp[useJ])
  intro i h1 h2
  have e1:∀(q i:Nat) (h:i<(useJ N rs ns q).length),(useJ N rs ns q)[i]=cntI rs i+if (ns.take q).contains (i:Int)=true then 1 else 0:=by
    intro q i h;simp only[useJ,List.getElem_map,List.getElem_range]
  rw[length_set,zJ] at h1
  rw[List.getElem_set,e1,e1,mX ns hj,hx]
  by_cases hi:x.toNat=i
  · rw [if_pos hi, show (useJ N rs ns j).getD x.toNat 0 = _ from nE _ _ (by omega)]
    have e:(i:Int)=x:=by omega
    have e2:((x.toNat:Nat):Int)=x:=by omega
    subst hi
    rw[e,if_neg (by rw[List.contains_iff_mem];exact hnd),if_pos (by rw[List.contains_iff_mem];simp)]
    omega
  · rw [if_neg hi]
    have e:¬(i:Int)=x:=by omega
    congr 1
    simp only[List.contains_iff_mem,List.mem_append,mem_singleton,e,or_false]
theorem Jp {N:Nat}{e:List Int}(h:NsOk N e) {j:Nat}(E:j<e.length):(e.take j).reverse.contains (e.getD j 0)=false:=by
  rw[Bool.eq_false_iff]
  intro B
  rw[List.contains_iff_mem,List.mem_reverse] at B
  have D:=h.nd
  rw[←take_append_drop (j+1) e,mX e E,List.append_assoc,List.nodup_append] at D
  exact D.2.2 _ B _ AI rfl
theorem nP (e:List Int) {j:Nat}(h:j<e.length):e.getD j 0::(e.take j).reverse=(e.take (j+1)).reverse:=by rw[mX e h,List.reverse_append];rfl
theorem vJ : ∀ (ns : List Int) (N : Nat), ns.Nodup → (∀ x ∈ ns, 0 ≤ x ∧ x < N) → (List.range N).countP (fun k => ns.contains ((k : Nat) : Int)) = ns.length
  | [],N,_,_=>by simp
  | a::ns,N,hn,hr=>by
    rw[List.nodup_cons] at hn
    have ih:=vJ ns N hn.2 (fun x hx=>hr x (mem_cons_of_mem _ hx))
    have ha:=hr a mem_cons_self
    have key:∀M:Nat,(List.range M).countP (fun k=>(a::ns).contains ((k:Nat):Int))=(List.range M).countP (fun k=>ns.contains ((k:Nat):Int))+if a<(M:Int) then 1 else 0:=by
      intro M
      induction M with
      | zero=>simp;omega
      | succ M ihM=>
        rw[List.range_succ,List.countP_append,List.countP_append,ihM]
        simp only[List.countP_cons,List.countP_nil,List.contains_iff_mem,List.mem_cons]
        by_cases hM:(M:Int)=a
        · have h1 : ¬ a < (M : Int) := by omega
          have h2:a<((M+1:Nat):Int):=by omega
          have h3:¬(M:Int)∈ns:=by rw[hM];exact hn.1
          simp only[h1,h2,h3,hM,hn.1,if_true,if_false,true_or];simp
        · by_cases hc : a < (M : Int)
          · have h2 : a < ((M + 1 : Nat) : Int) := by omega
            simp only[hc,h2,hM,if_true,false_or];simp;omega
          · have h2 : ¬ a < ((M + 1 : Nat) : Int) := by omega
            simp only[hc,h2,hM,if_false,false_or];simp
    rw[key N,ih,if_pos ha.2,length_cons]
def shI (h u p:Int):Int:=if 10+h+p*u<100000 then 10+h+p*u else 100000
def shL (hs us:List Int) (p:Int) (k:Nat):List Int:=(List.range k).map fun i=>shI (hs.getD i 0) (us.getD i 0) p
theorem Jn (e us:List Int) (p:Int) (k:Nat) {x:Int}(h:x=shI (e.getD k 0) (us.getD k 0) p):shL e us p k++[x]=shL e us p (k+1):=by
  unfold shL;rw[List.range_succ,map_append,h];rfl
theorem Ce (e us:List Int) (p:Int) (k:Nat):(shL e us p k).length=k:=by simp[shL]
theorem sh_at (e us:List Int) (p:Int) {i k:Nat}(h:i<k):(shL e us p k).getD i 0=shI (e.getD i 0) (us.getD i 0) p:=nE _ _ h
structure Tree (d:Dev) (s:Int) (ns fs ks:List Int):Prop where
  len:ns.length=fs.length
  l0:1≤ns.length
  l1:ns.length≤7
  root:ns.getD 0 0=s
  from0:fs.getD 0 0=0
  rng:∀x∈ns,0≤x∧x<allI d
  nd:ns.Nodup
  step:∀k,0<k→k<ns.length→0≤fs.getD k 0∧fs.getD k 0<k∧hasB (srcI d (ns.getD k 0)) (ns.getD (fs.getD k 0).toNat 0)=true
  sinks:ks=(ns.drop 1).filter fun x=>decide (x % perI d<5)
theorem Bz (rs:List Rt) {k:Nat}(h:k<rs.length):rs.take (k+1)=rs.take k++[rs.getD k rt0]:=by
  rw[List.take_succ_eq_append_getElem h,getD_eq_getElem?_getD,List.getElem?_eq_getElem h];rfl
theorem Gq {N:Nat}{rs:List Rt}(B:rs.length≤1000) {e:List Int}{j:Nat}(k:Nat) (h:k<N):0≤(useJ N rs e j).getD k 0∧(useJ N rs e j).getD k 0≤1001:=by
  unfold useJ
  rw[nE _ _ h]
  have:=zB rs k
  split<;>omega
theorem Ic {x lo e:Int}(h:lo≤x∧x≤e):inR x lo e=true:=(dA _ _ _).2 h
theorem wL (n:Int) (rs:List Rt) (v:Value) (w:World) (hn:0≤n∧n≤100000) (E:RdsRt w v rs) (hl:rs.length≤1000) (hr:∀k,k<rs.length→NsOk n.toNat (rs.getD k rt0).ns) :
   Calls Tryz.prog 41 #[.int .i64 n,v] w (Ret w (fun v' post=>post=[rI9 3 v' (useL n.toNat rs)])):=by
 refine aY (N:=48) (args:=[jI n,v]) Tryz.func41 A A (cF 1 A (aG (cN 1 A ?_)))
 refine cH A (fB (z:=jI 0) (s:=1) (bytes:=8) (n:=(replicate n.toNat (0:Int)).length) (cs:=(mI (replicate n.toNat (0:Int)))) A z8 A V A A AB AB AF (gW _)) fun M=>go ?_
 refine aN A (eV A A A (aE E.row)) (go ?_)
 refine iG (α:=Nat) (β:=List Int) [0,1,4,5,13,14] A (fun k zs=>[rI9 3 (.slice (some ⟨M,0,none⟩) ((replicate n.toNat (0:Int)).length) ((replicate n.toNat (0:Int)).length)) zs]) (fun k zs=>[(15,jI (k:Int))]) (fun k zs=>k≤rs.length∧zs=useL n.toNat (rs.take k)) (fun k zs=>rs.length-k) 0 (replicate n.toNat (0:Int)) ⟨O,Jg _⟩ (bV A) (cZ A) fun k zs U=>go ?_
 obtain⟨hk,hz⟩:=U
 refine aW A A A A A A (fun h3=>go ?_) (fun h3=>go ?_)
 refine aN A (cV 2 A A A A (aE E.row)) ?_
 have B:NsOk n.toNat (rs.getD k rt0).ns:=hr k O
 have a0:=B.len
 refine aN A (cO (us:=[(rs.getD k rt0).nv,(rs.getD k rt0).fv]) A A A A (aE E.row) O A (dQ Rt.cells 2 (fun _=>A) rs rt0 (show k<_ by omega) A)) (cU A (bY (z:=.agg #[.slice none 0 0,.slice none 0 0]) A A) fun b4=>?_)
 refine cA (cs':=#[(rs.getD k rt0).nv,(rs.getD k rt0).fv]) (i:=0) (off:=0) (us:=[(rs.getD k rt0).nv,(rs.getD k rt0).fv]) A A A A A A A (aC (E.nat (k:=k) O).one (aC (E.fat (k:=k) O).one bH)) A A A (go ?_)
 refine fF A A A (pJ A) fun v5 p6 R7=>?_
 obtain⟨m7,rfl,rfl⟩:=R7
 refine go ?_
 refine aN A (eV A A A (fun w G=>(E.nat (k:=k) O).below G.bel)) (go ?_)
 refine fP (α:=Nat) (β:=List Int) (γ:=List Int) [0,1,4,5,7,8,13,14,15,16,21,22] rfl (fun j h e=>[setE m7 h,boxE b4 #[(rs.getD k rt0).nv,(rs.getD k rt0).fv] 36,rI9 3 (.slice (some ⟨M,0,none⟩) ((replicate n.toNat (0:Int)).length) ((replicate n.toNat (0:Int)).length)) e]) (fun j h e=>[(23,jI (j:Int))]) (fun j h e=>j≤(rs.getD k rt0).ns.length∧h=((rs.getD k rt0).ns.take j).reverse∧e=useJ n.toNat (rs.take k) (rs.getD k rt0).ns j) (fun j h e=>(rs.getD k rt0).ns.length-j) 0 [] zs ⟨O,rfl,by rw[hz,Gn]⟩ (bV rfl) (cZ rfl) fun j h e X=>go ?_
 obtain⟨hj,Y,D⟩:=X
 have a1:e.length=n.toNat:=by rw[D,zJ]
 refine aW A A A A A A (fun h9=>go ?_) (fun h9=>go ?_)
 refine aN A (cV 1 A A A A (fun w G=>(E.nat (k:=k) O).below G.bel)) (aN A (aL (u:=jI (((rs.getD k rt0).ns).getD j 0)) A A A (fun w G=>(E.nat (k:=k) O).below G.bel) (cJ (show _<((rs.getD k rt0).ns).length by omega))) (go ?_))
 have a2:0≤(rs.getD k rt0).ns.getD j 0∧(rs.getD k rt0).ns.getD j 0<n.toNat:=B.rng _ (eN O)
 have Z:List.contains h ((rs.getD k rt0).ns.getD j 0)=false:=by rw[Y];exact Jp B O
 have a3:0≤e.getD ((rs.getD k rt0).ns.getD j 0).toNat 0∧e.getD ((rs.getD k rt0).ns.getD j 0).toNat 0≤1001:=by rw[D];exact Gq (by rw[length_take];omega) _ O
 have a4:h.length=j:=by rw[Y,List.length_reverse,length_take];omega
 refine cM A (aF A A (fun w G=>aI (hH (cS _ _ _ w)))) (bD (fun J=>go ?_) (fun J=>absurd (((Ic O)).symm.trans J) V))
 refine aN A (qD (i:=0) (S:=h) (k:=((rs.getD k rt0).ns).getD j 0) A Tryz.underlying70 A A (lL O) A) ?_
 refine bD (fun K=>absurd ((Z).symm.trans K) V) (fun K=>go ?_)
 refine pQ (i:=0) (k:=((rs.getD k rt0).ns).getD j 0) (l':=[setE m7 ((((rs.getD k rt0).ns).getD j 0)::h),boxE b4 #[(rs.getD k rt0).nv,(rs.getD k rt0).fv] 36,rI9 3 (.slice (some ⟨M,0,none⟩) ((replicate n.toNat (0:Int)).length) ((replicate n.toNat (0:Int)).length)) e]) A A A Tryz.underlying70 A A A (lL O) A (by first|omega|(simp;omega)) A (go ?_)
 refine aN A (cV 1 A A A A (aB 2 A)) (aN A (lP A A A (aB 2 A)) (go ?_))
 refine aN A (cV 1 A A A A (aB 2 A)) ?_
 refine dS (i:=2) (n':=(e.set ((((rs.getD k rt0).ns).getD j 0).toNat) ((e.getD ((((rs.getD k rt0).ns).getD j 0).toNat) 0)+1)).length) (xs':=((e.set ((((rs.getD k rt0).ns).getD j 0).toNat) ((e.getD ((((rs.getD k rt0).ns).getD j 0).toNat) 0)+1)).map (Value.int .i64))) A A A A A A A A AA List.length_set.symm (eP _ _ _) A (go ?_)
 exact aQ (j+1) ((((rs.getD k rt0).ns).getD j 0)::h) (e.set ((((rs.getD k rt0).ns).getD j 0).toNat) ((e.getD ((((rs.getD k rt0).ns).getD j 0).toNat) 0)+1)) ⟨O,by rw[Y];exact nP _ O,by rw[D];exact Fe _ B O⟩ O (bV rfl) (cZ rfl)
 exact bO (k+1) e ⟨O,by rw[D,show j=(rs.getD k rt0).ns.length by omega,Gp,Bz rs O]⟩ O (bV rfl) (eA [2] rfl)
 exact(bM (post:=[rI9 3 (.slice (some ⟨M,0,none⟩) ((replicate n.toNat (0:Int)).length) ((replicate n.toNat (0:Int)).length)) zs]) A A (cZ A) (by rw[hz,show k=rs.length by omega,take_length]))
theorem sZ (e us:List Int) (B D:Value) (p:Int) (w:World) (E:RdsW w B 1 e.length (e.map (Value.int .i64))) (U:e.length≤100000) (G:∀i,i<e.length→0≤e.getD i 0∧e.getD i 0≤100000) (X:RdsW w D 1 us.length (us.map (Value.int .i64))) (Z:us.length=e.length) (J:∀i,i<us.length→0≤us.getD i 0∧us.getD i 0≤1000) (Y:0≤p∧p≤100000) :
   Calls Tryz.prog 40 #[B,D,.int .i64 p] w (Ret w (fun v' post=>post=[rI9 3 v' (shL e us p e.length)])):=by
 refine aY (N:=32) (args:=[B,D,jI p]) Tryz.func40 A A (cF 1 A (dW ?_))
 refine rW 3 1 (bG 1 A (aG (aG (cN 1 A (aN A (eV A A A (aE E)) (bG 1 A (bS ?_)))))))
 refine fP (α:=Nat) (β:=Value) (γ:=List Int) [0,1,2,6,10,11] A (fun k u zs=>[rI9 3 u zs]) (fun k u zs=>[(7,u),(12,jI (k:Int))]) (fun k u zs=>k≤e.length∧zs=shL e us p k) (fun k u zs=>e.length-k) 0 _ [] ⟨O,A⟩ (bV A) (cZ A) ?_
 intro k u zs K
 obtain⟨hk,M⟩:=K
 have a0:zs.length=k:=by rw[M,Ce]
 refine dW ?_
 refine aW A A A A A A (fun h3=>?_) (fun h3=>?_)
 refine dL (tcQ A (eC (jR (aG (cN 1 A (aN A (cV 1 A A A A (aE E)) (aN A (lD A A A (aE E)) ?_)))))))
 refine bG 2 A (cN 2 A ?_)
 have a1:=G k O
 have h:=J k O
 have a2:0≤p*us.getD k 0∧p*us.getD k 0≤100000000:=⟨Int.mul_nonneg Y.1 h.1,Int.le_trans (Int.mul_le_mul Y.2 h.2 h.1 O) O⟩
 refine aN A (eY A A A) (aS 3 A (aN A (cV 1 A A A A (aE X)) (aN A (lD A A A (aE X)) (aN A (eZ A A A AE) (aN A (eY A A A) (aN A (Jt A A A) ?_))))))
 refine cH A (aH (z:=jI 0) (s:=1) (cs:=(mI [if (10+(e.getD k 0))+(p*(us.getD k 0))<100000 then (10+(e.getD k 0))+(p*(us.getD k 0)) else 100000])) A z8 A V A F A) ?_
 intro g4
 refine bT (i:=1) (z:=jI 0) (bytes:=8) A A A A z8 F A A A A (aB 0 A) (bI _) AD (bK zs ([if (10+(e.getD k 0))+(p*(us.getD k 0))<100000 then (10+(e.getD k 0))+(p*(us.getD k 0)) else 100000])) (cB zs ([if (10+(e.getD k 0))+(p*(us.getD k 0))<100000 then (10+(e.getD k 0))+(p*(us.getD k 0)) else 100000])) (fun _=>A) ?_
 intro v5
 refine eS 1 A (eB (bP (aN A (eY A A A) (eS 1 A ?_))))
 exact aQ (k+1) v5 (zs++([if (10+(e.getD k 0))+(p*(us.getD k 0))<100000 then (10+(e.getD k 0))+(p*(us.getD k 0)) else 100000])) ⟨O,by rw[M];exact Jn _ _ _ _ rfl⟩ O (bV rfl) (eA [1] rfl)
 refine dL (fcQ A ?_)
 refine bW (fM ?_)
 refine aO (bB (cF 2 A ?_))
 exact cW (bM (post:=[rI9 3 u zs]) A A (cZ A) (by rw[M,show k=e.length by omega]))
theorem iJ (d:Dev) (w:World) (e:devB d=true) :
   Calls Tryz.prog 38 #[.agg #[.int .i64 d.W,.int .i64 d.H,.int .i64 d.T,.int .i64 d.R]] w (Ans w (.int .i64 (allI d))):=by
 obtain⟨Y,Z⟩:=fR e
 obtain⟨B,D⟩:=eM e
 obtain⟨G,J⟩:=hU e
 obtain⟨⟨K,M⟩,⟨U,X⟩,⟨l1,l2⟩, -⟩:=(dI d).1 e
 have h:allI d=d.W*d.H*perI d:=rfl
 rw[h] at B D
 refine aY (N:=11) (args:=[.agg #[jI d.W,jI d.H,jI d.T,jI d.R]]) Tryz.func38 A A (dW ?_)
 refine cU A (cE A A) fun E=>go ?_
 refine bL 8 [[],[0],[],[2],[1,3],[],[5],[4,6]] [3,4,5,6,7,8,9,10] [.pointer (some ⟨E,0+0,none⟩),jI d.W,.pointer (some ⟨E,0+1,none⟩),jI d.H,jI (d.W*d.H),.agg #[jI d.W,jI d.H,jI d.T,jI d.R],jI (perI d),jI ((d.W*d.H)*(perI d))] F A ?_ ?_
 exact⟨aJ,aJ,aJ,aJ,fL A (eZ A A A AE) A,aJ,.inl ⟨A,aF A A (fun w hm=>aI (jN d e w))⟩,fL A (eZ A A A AE) A,trivial⟩
 simp only[drop_succ_cons,drop_zero]
 refine go ?_
 exact aT A A A
theorem uX {N:Nat}{w0:World}{l:List HP}{env:List (Nat×Value)}{Q:Post}{h:Exit}{i e s n:Nat}{v:Value}{xs:List Value}(D:l[i]? = some (rowE e s v n xs)) (k:v.oneCell'=true→HQ N w0 l env h Q):HQ N w0 l env h Q:=fun a w B=>k (cI (B.mem.holds _ (cT D))).one a w B
open Go.RowKit
theorem mV {xs:List Int}{x:Int}:hasB xs x=true↔x∈xs:=by unfold hasB;exact List.contains_iff_mem
theorem iF {l:List Int}{x:Int}(h:x∈l):∃k,k<l.length∧l.getD k 0=x:=by
  obtain⟨k,e,rfl⟩:=List.mem_iff_getElem.1 h
  exact⟨k,e,by rw[getD_eq_getElem?_getD,List.getElem?_eq_getElem e];rfl⟩
theorem Fx {l m:List Int}{k:Nat}(h:k<l.length):(l++m).getD k 0=l.getD k 0:=by
  rw[getD_eq_getElem?_getD,List.getElem?_append_left h,←getD_eq_getElem?_getD]
theorem gr {l m:List Int}{k:Nat}(h:l.length≤k):(l++m).getD k 0=m.getD (k-l.length) 0:=by
  rw[getD_eq_getElem?_getD,List.getElem?_append_right h,←getD_eq_getElem?_getD]
structure RtOk (d:Dev) (s0:Int) (ns fs ks:List Int):Prop where
  tr:Tree d s0 ns fs ks
  ok:nodeOkI d s0=true
  out:s0 % perI d=5
structure Qu where
  d:Int
  n:Int
abbrev qu0:Qu:=⟨0,0⟩
def quC (r:Qu):List Value:=[.int .i64 r.d,.int .i64 r.n]
abbrev gI (l:List Int) (x:Int):Int:=l.getD x.toNat 0
theorem iB {l:List Int}{i j:Nat}{x:Int}(h:i<l.length):(l.set i x).getD j 0=if i=j then x else l.getD j 0:=by
  by_cases e:i=j
  · subst e;rw[if_pos rfl,fQ h]
  · rw[if_neg e,getD_eq_getElem?_getD,List.getElem?_set_ne e,←getD_eq_getElem?_getD]
theorem Df {l:List Int}{n x y:Int}(h:0≤n) (B:n<l.length) (D:0≤y):gI (l.set n.toNat x) y=if y=n then x else gI l y:=by
  unfold gI
  rw[iB O]
  by_cases e:y=n
  · subst e;rw[if_pos rfl,if_pos rfl]
  · rw[if_neg e,if_neg O]
def cntK:List Int→Nat
  | []=>0
  | a::l=>(if a = -1 then 0 else 1)+cntK l
theorem rG:∀l:List Int,cntK l≤l.length
  | []=>Nat.le_refl _
  | a::l=>by have:=rG l;simp only[cntK,length_cons];split<;>omega
theorem vN:∀(l:List Int) (i:Nat) (x:Int),i<l.length→x≠-1→cntK (l.set i x)=cntK l+if l.getD i 0 = -1 then 1 else 0
  | [],i,x,h,_=>by simp at h
  | a::l,0,x,h,hx=>by
    simp only[List.set_cons_zero,cntK,hx,if_false,List.getD_cons_zero]
    split<;>omega
  | a::l,i+1,x,h,hx=>by
    have:=vN l i x (by simpa using h) hx
    simp only[List.set_cons_succ,cntK,List.getD_cons_succ,this]
    omega
def wgt (B:Nat) (a:Int):Nat:=if a<0 then B else a.toNat
def sumW (B:Nat):List Int→Nat
  | []=>0
  | a::l=>wgt B a+sumW B l
theorem pW (B:Nat):∀(l:List Int) (i:Nat) (x:Int),i<l.length→sumW B (l.set i x)+wgt B (l.getD i 0)=sumW B l+wgt B x
  | [],i,x,h=>by simp at h
  | a::l,0,x,h=>by simp only[List.set_cons_zero,sumW,List.getD_cons_zero];omega
  | a::l,i+1,x,h=>by
    have:=pW B l i x (by simpa using h)
    simp only[List.set_cons_succ,sumW,List.getD_cons_succ];omega
theorem Gu (B n:Nat):sumW B (replicate n (-1))=n*B:=by
  induction n with
  | zero=>simp[sumW]
  | succ n ih=>rw[List.replicate_succ,sumW,ih,Nat.add_mul];simp[wgt];omega
structure GrS (N:Nat) (S K:Int→List Int) (cs:List Int):Prop where
  n1:N≤828
  cl:cs.length=N
  cr:∀k:Int,0≤k→k<N→1≤gI cs k∧gI cs k≤100000
  sr:∀k:Int,0≤k→k<N→∀s∈S k,0≤s∧s<N
  kr:∀x:Int,0≤x→x<N→∀n,n∈K x↔(0≤n∧n<N)∧x∈S n
theorem GrS.bnd {N:Nat}{S K:Int→List Int}{cs:List Int}(h:GrS N S K cs):N*(100000*N+1)≤80000000000:=by
  have e:=h.n1
  have:=Nat.mul_le_mul e (show 100000*N+1≤82800001 by omega)
  omega
structure DI (N:Nat) (S:Int→List Int) (cs st s0:List Int) (R:Int→List Int) (out:List Int) (td:List Qu) (M:Nat):Prop where
  len:out.length=N
  rng:∀k:Int,0≤k→k<N→gI out k = -1∨(0≤gI out k∧gI out k≤100000*(cntK out:Int))
  sts:∀s∈s0,gI out s=0
  tdo:∀e∈td,(0≤e.n∧e.n<N)∧0≤gI out e.n∧gI out e.n≤e.d∧e.d≤100000*N
  tig:∀k:Int,0≤k→k<N→¬k∈st→0≤gI out k→∃s∈S k,0≤gI out s∧gI out s+gI cs k≤gI out k
  set:∀y:Int,0≤y→y<N→0≤gI out y→(∃e∈td,e.n=y∧e.d=gI out y)∨∀n∈R y,0≤gI out n∧gI out n≤gI out y+gI cs n
  mea:sumW (100000*N+1) out+td.length≤M
theorem DI.up {N:Nat}{S:Int→List Int}{cs D E:List Int}{R:Int→List Int}{e:List Int}{G:List Qu}{M:Nat}(h:DI N S cs D E R e G M) {k:Int}(J:0≤k) (K:k<N):gI e k = -1∨(0≤gI e k∧gI e k≤100000*(N:Int)):=by
  have:=rG e
  have U:=h.len
  rcases h.rng k J K with B|⟨B,h3⟩
  · exact .inl B
  · exact .inr ⟨B,O⟩
theorem DI.perm {N:Nat}{S:Int→List Int}{cs J K:List Int}{R:Int→List Int}{B:List Int}{U D:List Qu}{M:Nat}(h:DI N S cs J K R B U M) (E:U.Perm D):DI N S cs J K R B D M:=
  ⟨h.len,h.rng,h.sts,fun e G=>h.tdo e (E.mem_iff.2 G),h.tig,fun y X Y Z=>(h.set y X Y Z).imp_left (fun ⟨e,G,h3⟩=>⟨e,E.mem_iff.1 G,h3⟩),by have:=E.length_eq;have:=h.mea;omega⟩
theorem DI.better {N : Nat} {S K : Int → List Int} {cs st s0 : List Int} {R : Int → List Int} {out : List Int} {td : List Qu} {M : Nat} (g : GrS N S K cs) (h : DI N S cs st s0 R out td M) {x n : Int} (hx0 : 0 ≤ x) (hx1 : x < N) (hx : 0 ≤ gI out x) (hn0 : 0 ≤ n) (hn1 : n < N) (hs : x ∈ S n)
    (hRn:∀y:Int,0≤y→y<N→∀m∈R y,0≤m) (hb:gI out n = -1∨gI out x+gI cs n<gI out n):DI N S cs st s0 (fun y=>if y=x then R x++[n] else R y) (out.set n.toNat (gI out x+gI cs n)) (td++[⟨gI out x+gI cs n,n⟩]) M:=by
  have hl:=h.len
  have hc:=g.cr n hn0 hn1
  have hne:x≠n:=by intro e;subst e;omega
  have hk:=h.rng n hn0 hn1
  have hkx:=h.rng x hx0 hx1
  have G:∀y:Int,0≤y→gI (out.set n.toNat (gI out x+gI cs n)) y=if y=n then gI out x+gI cs n else gI out y:=fun y hy=>Df hn0 (by omega) hy
  have hcs:=vN out n.toNat (gI out x+gI cs n) (by omega) (by omega)
  have hle:(cntK (out.set n.toNat (gI out x+gI cs n)))≤N:=by have:=rG (out.set n.toNat (gI out x+gI cs n));rw[length_set] at this;omega
  have hval:gI out x+gI cs n≤100000*(cntK (out.set n.toNat (gI out x+gI cs n)):Int):=by
    rcases hb with hb|hb
    · have hb' : out.getD n.toNat 0 = -1 := hb
      rw[hcs,if_pos hb'];omega
    · rw[hcs];omega
  refine⟨by rw[length_set];exact hl,fun k k0 k1=>?_,fun s hs0=>?_,fun e he=>?_,fun k k0 k1 hkst hk0=>?_,fun y y0 y1 hy=>?_,?_⟩
  · rw [G k k0]
    by_cases e:k=n
    · rw[if_pos e];exact .inr ⟨by omega,hval⟩
    · rw [if_neg e]
      rcases h.rng k k0 k1 with h2|⟨h2,h3⟩
      · exact .inl h2
      · exact .inr ⟨h2,by rw[hcs];omega⟩
  · have hz := h.sts s hs0
    by_cases hs1:0≤s
    · rw [G s hs1]
      by_cases e:s=n
      · subst e;omega
      · rw[if_neg e];exact hz
    · show (out.set n.toNat _).getD s.toNat 0 = 0
      rw[iB (by omega)]
      have hz':out.getD s.toNat 0=0:=hz
      by_cases e:n.toNat=s.toNat
      · have e2 : gI out n = 0 := by unfold gI; rw [e]; exact hz'
        omega
      · rw[if_neg e];exact hz'
  · rcases List.mem_append.1 he with he | he
    · obtain ⟨a1, a2, a3, a4⟩ := h.tdo e he
      rw[G e.n a1.1]
      by_cases e':e.n=n
      · rw[if_pos e'];rw[e'] at a2 a3;exact⟨a1,by omega,by omega,a4⟩
      · rw[if_neg e'];exact⟨a1,a2,a3,a4⟩
    · rw [mem_singleton] at he; subst he
      refine⟨⟨hn0,hn1⟩,?_⟩
      show 0≤gI _ n∧gI _ n≤gI out x+gI cs n∧_
      rw[G n hn0,if_pos rfl]
      exact⟨by omega,Int.le_refl _,by show gI out x+gI cs n≤_;omega⟩
  · rw [G k k0] at hk0 ⊢
    by_cases e:k=n
    · subst e
      rw[if_pos rfl]
      refine⟨x,hs,?_⟩
      rw[G x hx0,if_neg hne];exact⟨hx,Int.le_refl _⟩
    · rw [if_neg e] at hk0 ⊢
      obtain⟨s,hs1,hs2,hs3⟩:=h.tig k k0 k1 hkst hk0
      have hsr:=g.sr k k0 k1 s hs1
      refine⟨s,hs1,?_⟩
      rw[G s hsr.1]
      by_cases e':s=n
      · subst e';rw[if_pos rfl];omega
      · rw[if_neg e'];exact⟨hs2,hs3⟩
  · rw [G y y0] at hy ⊢
    by_cases e:y=n
    · subst e
      rw[if_pos rfl]
      exact .inl ⟨_,List.mem_append_right _ (List.mem_singleton.2 rfl),rfl,rfl⟩
    · rw [if_neg e] at hy ⊢
      rcases h.set y y0 y1 hy with⟨q,hq,hq1,hq2⟩|hR
      · exact .inl ⟨q,List.mem_append_left _ hq,hq1,hq2⟩
      · refine .inr fun m hm => ?_
        by_cases hyx:y=x
        · subst hyx
          rw[if_pos rfl] at hm
          rcases List.mem_append.1 hm with hm|hm
          · have := hR m hm
            have hm0:=hRn y y0 y1 m hm
            rw[G m hm0]
            by_cases e':m=n
            · subst e';rw[if_pos rfl];omega
            · rw[if_neg e'];exact this
          · rw [mem_singleton] at hm; subst hm
            rw[G m hn0,if_pos rfl];omega
        · rw [if_neg hyx] at hm
          have:=hR m hm
          have hm0:=hRn y y0 y1 m hm
          rw[G m hm0]
          by_cases e':m=n
          · subst e';rw[if_pos rfl];omega
          · rw[if_neg e'];exact this
  · have := pW (100000 * N + 1) out n.toNat (gI out x + gI cs n) (by omega)
    have hm:=h.mea
    rw[length_append,length_singleton]
    have e1:wgt (100000*N+1) (gI out x+gI cs n)+1≤wgt (100000*N+1) (out.getD n.toNat 0):=by
      unfold wgt
      rw[if_neg (by omega)]
      rcases hb with hb|hb
      · have hb' : out.getD n.toNat 0 = -1 := hb
        rw[hb',if_pos (by omega)];omega
      · have hb' : gI out x + gI cs n < out.getD n.toNat 0 := hb
        rw[if_neg (by omega)];omega
    omega
theorem DI.worse {N : Nat} {S : Int → List Int} {cs st s0 : List Int} {R : Int → List Int} {out : List Int} {td : List Qu} {M : Nat} (h : DI N S cs st s0 R out td M) {x n : Int} (hn0 : 0 ≤ n) (hn1 : n < N)
    (hb:gI out n≠-1∧gI out n≤gI out x+gI cs n):DI N S cs st s0 (fun y=>if y=x then R x++[n] else R y) out td M:=
  ⟨h.len,h.rng,h.sts,h.tdo,h.tig,fun y y0 y1 hy=>(h.set y y0 y1 hy).imp_right fun hR m hm=>by
    by_cases e:y=x
    · subst e
      rw[if_pos rfl] at hm
      rcases List.mem_append.1 hm with hm|hm
      · exact hR m hm
      · rw [mem_singleton] at hm; subst hm
        have:=h.rng m hn0 hn1
        omega
    · rw[if_neg e] at hm;exact hR m hm,h.mea⟩
theorem DI.take {N:Nat}{S:Int→List Int}{cs st s0:List Int}{R:Int→List Int}{out:List Int}{e:Qu}{td:List Qu}{M:Nat}(h:DI N S cs st s0 R out (e::td) M):DI N S cs st s0 (fun y=>if y=e.n then [] else R y) out td (M-1):=
  ⟨h.len,h.rng,h.sts,fun q hq=>h.tdo q (mem_cons_of_mem _ hq),h.tig,fun y y0 y1 hy=>by
    by_cases hye:y=e.n
    · subst hye;rw[if_pos rfl];exact .inr fun m hm=>absurd hm (by simp)
    · rw [if_neg hye]
      refine(h.set y y0 y1 hy).imp_left fun ⟨q,hq,h1,h2⟩=>⟨q,?_,h1,h2⟩
      rcases List.mem_cons.1 hq with hq|hq
      · subst hq;exact absurd h1.symm hye
      · exact hq,by have:=h.mea;simp only[length_cons] at this;omega⟩
theorem DI.drop {N:Nat}{S:Int→List Int}{cs st s0:List Int}{R:Int→List Int}{out:List Int}{e:Qu}{td:List Qu}{M:Nat}(h:DI N S cs st s0 R out (e::td) M) (hd:gI out e.n<e.d):DI N S cs st s0 R out td (M-1):=
  ⟨h.len,h.rng,h.sts,fun q hq=>h.tdo q (mem_cons_of_mem _ hq),h.tig,fun y y0 y1 hy=>by
    rcases h.set y y0 y1 hy with⟨q,hq,h1,h2⟩|hR
    · refine .inl ⟨q, ?_, h1, h2⟩
      rcases List.mem_cons.1 hq with hq|hq
      · subst hq;rw[h1] at hd;omega
      · exact hq
    · exact .inr hR,by have:=h.mea;simp only[length_cons] at this;omega⟩
theorem DI.cong {N:Nat}{S:Int→List Int}{cs B D:List Int}{R R':Int→List Int}{e:List Int}{E:List Qu}{M:Nat}(h:DI N S cs B D R e E M) (K:∀y:Int,0≤y→y<N→∀n∈R' y,n∈R y):DI N S cs B D R' e E M:=
  ⟨h.len,h.rng,h.sts,h.tdo,h.tig,fun y G J U=>(h.set y G J U).imp_right fun X n Y=>X n (K y G J n Y),h.mea⟩
structure DS (N:Nat) (cs st s0:List Int) (out:List Int) (td:List Qu):Prop where
  len:out.length=N
  rng:∀k:Int,0≤k→k<N→gI out k = -1∨gI out k=0
  sts:∀s∈s0,gI out s=0
  zer:∀k:Int,0≤k→k<N→gI out k=0→k∈st∧∃e∈td,e.n=k∧e.d=0
  tdo:∀e∈td,(0≤e.n∧e.n<N)∧gI out e.n=0∧e.d=0
  mea:sumW (100000*N+1) out+td.length≤N*(100000*N+1)
theorem Im {N:Nat}{k:Int}(e:0≤k) (h:k<N):gI (replicate N (-1)) k = -1:=by
  unfold gI
  rw[getD_eq_getElem?_getD,List.getElem?_replicate,if_pos O];rfl
theorem Iq (N:Nat) (cs D:List Int):DS N cs D [] (replicate N (-1)) []:=
  ⟨AI,fun k h B=>.inl (Im h B),fun s E=>absurd E AI,fun k h B G=>by rw[Im h B] at G;omega,fun e J=>absurd J AI,by rw[Gu];simp⟩
theorem DS.more {N:Nat}{cs st s0 out:List Int}{td td':List Qu}(h:DS N cs st s0 out td) {s:Int}(hs0:0≤s) (hs1:s<N) (hst:s∈st) (hz:gI out s≠0) (hp:(td++[Qu.mk 0 s]).Perm td'):DS N cs st (s0++[s]) (out.set s.toNat 0) td':=by
  have hl:=h.len
  have G:∀y:Int,0≤y→gI (out.set s.toNat 0) y=if y=s then 0 else gI out y:=fun y hy=>Df hs0 (by omega) hy
  have hm1:gI out s = -1:=(h.rng s hs0 hs1).resolve_right hz
  refine⟨by rw[length_set];exact hl,fun k k0 k1=>?_,fun q hq=>?_,fun k k0 k1 hk=>?_,fun e he=>?_,?_⟩
  · rw [G k k0]
    by_cases e:k=s
    · rw[if_pos e];exact .inr rfl
    · rw[if_neg e];exact h.rng k k0 k1
  · show (out.set s.toNat 0).getD q.toNat 0 = 0
    rw[iB (by omega)]
    rcases List.mem_append.1 hq with hq|hq
    · have := h.sts q hq
      split
      · rfl
      · exact this
    · rw[mem_singleton] at hq;subst hq;rw[if_pos rfl]
  · rw [G k k0] at hk
    by_cases e:k=s
    · subst e;exact⟨hst,_,hp.mem_iff.1 (List.mem_append_right _ (List.mem_singleton.2 rfl)),rfl,rfl⟩
    · rw [if_neg e] at hk
      obtain⟨h1,q,h2,h3⟩:=h.zer k k0 k1 hk
      exact⟨h1,q,hp.mem_iff.1 (List.mem_append_left _ h2),h3⟩
  · rcases List.mem_append.1 (hp.mem_iff.2 he) with he | he
    · obtain ⟨a, b, c⟩ := h.tdo e he
      refine⟨a,?_,c⟩
      rw[G _ a.1];split
      · rfl
      · exact b
    · rw [mem_singleton] at he; subst he
      exact⟨⟨hs0,hs1⟩,by show gI _ s=0;rw[G s hs0,if_pos rfl],rfl⟩
  · have e1 := pW (100000 * N + 1) out s.toNat 0 (by omega)
    have e2:=hp.length_eq
    have hm:=h.mea
    have hm2:out.getD s.toNat 0 = -1:=hm1
    rw[hm2] at e1
    simp only[wgt,length_append,length_singleton] at e1 e2
    simp at e1
    omega
theorem DS.again {N:Nat}{cs D E e:List Int}{G:List Qu}(h:DS N cs D E e G) {s:Int}(J:gI e s=0):DS N cs D (E++[s]) e G:=
  ⟨h.len,h.rng,fun q B=>by
    rcases List.mem_append.1 B with B|B
    · exact h.sts q B
    · rw[mem_singleton] at B;subst B;exact J,h.zer,h.tdo,h.mea⟩
theorem DS.di {N:Nat}{S R:Int→List Int}{cs st out:List Int}{td:List Qu}(h:DS N cs st st out td):DI N S cs st st R out td (N*(100000*N+1)):=
  ⟨h.len,fun k k0 k1=>by rcases h.rng k k0 k1 with h1|h1<;>omega,h.sts,fun e he=>by obtain⟨a,b,c⟩:=h.tdo e he;exact⟨a,by omega,by omega,by omega⟩,
    fun k k0 k1 hk hk0=>by
      rcases h.rng k k0 k1 with h1|h1
      · omega
      · exact absurd (h.zer k k0 k1 h1).1 hk,
    fun y y0 y1 hy=>by
      rcases h.rng y y0 y1 with h1|h1
      · omega
      · obtain ⟨-, q, h2, h3, h4⟩ := h.zer y y0 y1 h1
        exact .inl ⟨q,h2,h3,by omega⟩,h.mea⟩
structure DistOk (N:Nat) (S:Int→List Int) (cs st:List Int) (D:List Int):Prop where
  len:D.length=N
  rng:∀k:Int,0≤k→k<N→gI D k = -1∨(0≤gI D k∧gI D k≤100000*(N:Int))
  sts:∀s∈st,gI D s=0
  rel:∀n:Int,0≤n→n<N→∀s∈S n,0≤gI D s→0≤gI D n∧gI D n≤gI D s+gI cs n
  tig:∀k:Int,0≤k→k<N→¬k∈st→0≤gI D k→∃s∈S k,0≤gI D s∧gI D k=gI D s+gI cs k
theorem DI.done {N:Nat}{S K:Int→List Int}{cs U:List Int}{B:List Int}{M:Nat}(g:GrS N S K cs) (h:DI N S cs U U K B [] M):DistOk N S cs U B:=by
  have D:∀n:Int,0≤n→n<N→∀s∈S n,0≤gI B s→0≤gI B n∧gI B n≤gI B s+gI cs n:=fun n Y Z s E h0=>by
    have G:=g.sr n Y Z s E
    rcases h.set s G.1 G.2 h0 with⟨e,he, -⟩|hR
    · exact absurd he AI
    · exact hR n ((g.kr s G.1 G.2 n).2 ⟨⟨Y,Z⟩,E⟩)
  exact⟨h.len,fun k k0 J=>h.up k0 J,h.sts,D,fun k k0 J hk X=>by
    obtain⟨s,E,h1,h2⟩:=h.tig k k0 J hk X
    have:=D k k0 J s E h1
    exact⟨s,E,h1,O⟩⟩
theorem oE {α:Type}(d:α):∀(es:List α) (p i:Nat),p<i→i<es.length→((es.set p (es.getD i d)).set i (es.getD p d)).Perm es:=by
  intro es p i hp hi
  have h1:es=es.take p++es.getD p d::((es.drop (p+1)).take (i-p-1)++es.getD i d::es.drop (i+1)):=by
    apply List.ext_getElem?
    intro k
    rw[List.getElem?_append]
    rw[length_take,Nat.min_eq_left (by omega)]
    by_cases k1:k<p
    · rw[if_pos k1,List.getElem?_take,if_pos k1]
    · rw [if_neg k1]
      by_cases k2:k=p
      · subst k2;rw[Nat.sub_self,List.getElem?_cons_zero];exact yT (by omega)
      · obtain ⟨q, hq⟩ : ∃ q, k - p = q + 1 := ⟨k - p - 1, by omega⟩
        rw[hq,List.getElem?_cons_succ,List.getElem?_append,length_take,length_drop,Nat.min_eq_left (by omega)]
        by_cases k3:q<i-p-1
        · rw[if_pos k3,List.getElem?_take,if_pos k3,List.getElem?_drop];congr 1;omega
        · rw [if_neg k3]
          by_cases k4:q=i-p-1
          · rw[k4,Nat.sub_self,List.getElem?_cons_zero,←yT hi];congr 1;omega
          · obtain ⟨r, hr⟩ : ∃ r, q - (i - p - 1) = r + 1 := ⟨q - (i - p - 1) - 1, by omega⟩
            rw[hr,List.getElem?_cons_succ,List.getElem?_drop];congr 1;omega
  have h2:(es.set p (es.getD i d)).set i (es.getD p d)=es.take p++es.getD i d::((es.drop (p+1)).take (i-p-1)++es.getD p d::es.drop (i+1)):=by
    apply List.ext_getElem?
    intro k
    rw[List.getElem?_append]
    rw[length_take,Nat.min_eq_left (by omega)]
    by_cases k1:k<p
    · rw[if_pos k1,List.getElem?_take,if_pos k1,List.getElem?_set_ne (by omega),List.getElem?_set_ne (by omega)]
    · rw [if_neg k1]
      by_cases k2:k=p
      · subst k2;rw[Nat.sub_self,List.getElem?_cons_zero,List.getElem?_set_ne (by omega),List.getElem?_set_self (by omega)]
      · obtain ⟨q, hq⟩ : ∃ q, k - p = q + 1 := ⟨k - p - 1, by omega⟩
        rw[hq,List.getElem?_cons_succ,List.getElem?_append,length_take,length_drop,Nat.min_eq_left (by omega)]
        by_cases k3:q<i-p-1
        · rw[if_pos k3,List.getElem?_take,if_pos k3,List.getElem?_drop,List.getElem?_set_ne (by omega),List.getElem?_set_ne (by omega)];congr 1;omega
        · rw [if_neg k3]
          by_cases k4:q=i-p-1
          · rw[k4,Nat.sub_self,List.getElem?_cons_zero,show k=i by omega,List.getElem?_set_self (by rw[length_set];omega)]
          · obtain ⟨r, hr⟩ : ∃ r, q - (i - p - 1) = r + 1 := ⟨q - (i - p - 1) - 1, by omega⟩
            rw[hr,List.getElem?_cons_succ,List.getElem?_drop,List.getElem?_set_ne (by omega),List.getElem?_set_ne (by omega)];congr 1;omega
  rw[h2]
  generalize es.getD p d=a at *
  generalize es.getD i d=b at *
  conv=>rhs;rw[h1]
  refine List.Perm.append_left _ ?_
  refine(List.Perm.cons b List.perm_middle).trans ?_
  refine(List.Perm.swap _ _ _).trans (List.Perm.cons a ?_)
  exact List.perm_middle.symm
theorem Hm {α:Type}(d:α):∀(es:List α),0<es.length→(es.getD 0 d::(es.set 0 (es.getD (es.length-1) d)).take (es.length-1)).Perm es:=by
  intro es h
  cases es with
  | nil=>simp at h
  | cons a t=>
    cases t with
    | nil=>simp
    | cons b t=>
      have e:(a::b::t).getD ((a::b::t).length-1) d=(b::t).getD (b::t).length.pred d:=AI
      have B:(b::t)=(b::t).take t.length++[(b::t).getD t.length d]:=by
        rw[getD_eq_getElem?_getD,List.getElem?_eq_getElem (show t.length<(b::t).length by simp)]
        show _=_++[(b::t)[t.length]]
        rw[←List.take_succ_eq_append_getElem AI]
        rw[List.take_of_length_le AI]
      rw[e]
      show(a::((b::t).getD t.length d::(b::t)).take (t.length+1)).Perm _
      rw[List.take_succ_cons]
      refine List.Perm.cons a ?_
      conv=>rhs;rw[B]
      exact(List.perm_append_comm (l₁:=(b::t).take t.length) (l₂:=[(b::t).getD t.length d])).symm
theorem kD {l:List Int}{k:Nat}(h:k<l.length):l.take (k+1)=l.take k++[l.getD k 0]:=by
  rw[List.take_succ_eq_append_getElem h,getD_eq_getElem?_getD,List.getElem?_eq_getElem h];rfl
theorem dV {l:List Int}{k:Nat}(h:k<l.length):l.getD k 0∈l:=by
  rw[getD_eq_getElem?_getD,List.getElem?_eq_getElem h];exact List.getElem_mem h
def upTo (K:Int→List Int) (x:Int) (j:Nat):Int→List Int:=fun y=>if y=x then (K x).take j else K y
theorem DI.first {N:Nat}{S K:Int→List Int}{cs E:List Int}{B:List Int}{e:Qu}{G:List Qu}{M:Nat}(h:DI N S cs E E K B (e::G) M):DI N S cs E E (upTo K e.n 0) B G (M-1):=
  h.take.cong fun y U X n D=>by
    unfold upTo at D
    by_cases J:y=e.n
    · rw[if_pos J] at D;simp at D
    · rw[if_neg J] at D ⊢;exact D
theorem DI.last {N:Nat}{S K:Int→List Int}{cs B:List Int}{x:Int}{j:Nat}{e:List Int}{D:List Qu}{M:Nat}(h:DI N S cs B B (upTo K x j) e D M) (J:(K x).length≤j):DI N S cs B B K e D M:=
  h.cong fun y U X n E=>by
    unfold upTo
    by_cases G:y=x
    · subst G;rw[if_pos rfl,List.take_of_length_le J];exact E
    · rw[if_neg G];exact E
theorem wM {K:Int→List Int}{x:Int}{j:Nat}(B:j<(K x).length):∀y:Int,∀n∈upTo K x (j+1) y,n∈(if y=x then upTo K x j x++[(K x).getD j 0] else upTo K x j y):=fun y n e=>by
  unfold upTo at e ⊢
  by_cases h:y=x
  · rw[if_pos h] at e ⊢;rw[if_pos rfl,←kD B];exact e
  · rw[if_neg h] at e;rw[if_neg h,if_neg h];exact e
theorem DI.lower {N:Nat}{S K:Int→List Int}{cs st:List Int}{out:List Int}{td td':List Qu}{M:Nat}{x n c:Int}{j:Nat}(g:GrS N S K cs) (h:DI N S cs st st (upTo K x j) out td M) (hx0:0≤x) (hx1:x<N) (hx:0≤gI out x) (hj:j<(K x).length) (hn:n=(K x).getD j 0)
    (hc:c=gI out x+gI cs n) (hb:gI out n = -1∨c<gI out n) (hp:td'.Perm (td++[Qu.mk c n])):DI N S cs st st (upTo K x (j+1)) (out.set n.toNat c) td' M∧gI (out.set n.toNat c) x=gI out x:=by
  subst hc
  obtain⟨⟨hn0,hn1⟩,hs⟩:=(g.kr x hx0 hx1 n).1 (hn▸dV hj)
  have hcst:=g.cr n hn0 hn1
  have hne:x≠n:=by intro e;subst e;omega
  refine⟨((h.better g hx0 hx1 hx hn0 hn1 hs (fun y y0 y1 m hm=>?_) hb).perm hp.symm).cong (fun y y0 y1 m hm=>by rw[hn];exact wM hj y m hm),?_⟩
  · unfold upTo at hm
    by_cases hy:y=x
    · rw [if_pos hy] at hm
      exact((g.kr x hx0 hx1 m).1 (List.mem_of_mem_take hm)).1.1
    · rw [if_neg hy] at hm
      exact((g.kr y y0 y1 m).1 hm).1.1
  · rw[Df hn0 (by rw[h.len];exact hn1) hx0,if_neg hne]
theorem DI.higher {N:Nat}{S K:Int→List Int}{cs B:List Int}{e:List Int}{U:List Qu}{M:Nat}{x n:Int}{j:Nat}(g:GrS N S K cs) (h:DI N S cs B B (upTo K x j) e U M) (D:0≤x) (E:x<N) (X:j<(K x).length) (Y:n=(K x).getD j 0)
    (Z:gI e n≠-1∧gI e n≤gI e x+gI cs n):DI N S cs B B (upTo K x (j+1)) e U M:=by
  obtain⟨⟨G,J⟩,hs⟩:=(g.kr x D E n).1 (Y▸dV X)
  exact(h.worse G J Z).cong (fun y y0 y1 m hm=>by rw[Y];exact wM X y m hm)
theorem Ga {N k:Nat}(h:k<N):(replicate k (-1:Int)++replicate (N-k) 0).set k (-1)=replicate (k+1) (-1)++replicate (N-(k+1)) 0:=by
  rw[List.set_append_right _ _ AI,length_replicate,Nat.sub_self,show N-k=(N-(k+1))+1 by omega,List.replicate_succ,List.set_cons_zero,List.replicate_succ',List.append_assoc];rfl
theorem Gc (N:Nat):replicate N (-1:Int)++replicate (N-N) 0=replicate N (-1):=AI
theorem Gb {N k:Nat}(h:k≤N):(replicate k (-1:Int)++replicate (N-k) 0).length=N:=by simp;omega
theorem DI.top {N:Nat}{S:Int→List Int}{cs D E:List Int}{R:Int→List Int}{B:List Int}{e:Qu}{G:List Qu}{M:Nat}(h:DI N S cs D E R B (e::G) M):(0≤e.n∧e.n<N)∧0≤gI B e.n∧gI B e.n≤e.d∧e.d≤100000*N∧1≤M:=by
  have:=h.tdo e mem_cons_self
  have:=h.mea
  simp only[length_cons] at this
  exact⟨(h.tdo e mem_cons_self).1,(h.tdo e mem_cons_self).2.1,(h.tdo e mem_cons_self).2.2.1,(h.tdo e mem_cons_self).2.2.2,O⟩
structure IR where
  v:Value
  xs:List Int
abbrev ir0:IR:=⟨.slice none 0 0,[]⟩
def irC (r:IR):List Value:=[r.v]
abbrev irPart (r:IR):HP:=rI9 3 r.v r.xs
abbrev irsE (v:Value) (rs:List IR):HP:=bigE [bigE (rs.map irPart),rS9 26 1 v rs irC]
structure RdsIr (w:World) (v:Value) (rs:List IR):Prop where
  row:RdsW w v 1 rs.length (rs.flatMap irC)
  xs:∀r∈rs,RdsW w r.v 1 r.xs.length (r.xs.map (Value.int .i64))
theorem RdsIr.below {w e:World}{v:Value}{rs:List IR}(h:RdsIr w v rs) (B:Below w.heap.size w e):RdsIr e v rs:=⟨h.row.below B,fun r D=>(h.xs r D).below B⟩
theorem RdsIr.at {w:World}{v:Value}{rs:List IR}(h:RdsIr w v rs) {k:Nat}(e:k<rs.length):RdsW w (rs.getD k ir0).v 1 (rs.getD k ir0).xs.length ((rs.getD k ir0).xs.map (Value.int .i64)):=h.xs _ (eN e)
theorem rV {w0:World}{l:List HP}{v:Value}{rs:List IR}(i:Nat) (h:l[i]? = some (irsE v rs)) (w:World) (B:Mem w0 l w):RdsIr w v rs:=by
  obtain⟨e, -⟩:=B.holds _ (cT h)
  have D:=(e _ (mem_cons_self)).2
  have E:=(e _ (mem_cons_of_mem _ mem_cons_self)).2
  exact⟨cI E,fun r G=>cI (D.1 (irPart r) (List.mem_map.2 ⟨r,G,rfl⟩)).2⟩
theorem Mem.cutRow {w0 w:World}{l:List HP}{e s n m:Nat}{v:Value}{xs:List Value}(h:Mem w0 (rowE e s v n xs::l) w) (hm:m≤n):Mem w0 (rowE e s (slV v 0 m s) m (xs.take (m*s))::l) w:=by
  have hown:w.ownsRow 0 e s v n xs:=h.holds _ mem_cons_self
  have key:w.ownsRow 0 e s (slV v 0 m s) m (xs.take (m*s))∧(slV v 0 m s).ownBlock=v.ownBlock:=by
    obtain⟨hl,hc⟩:=hown
    have hle:m*s≤n*s:=Nat.mul_le_mul_right s hm
    rcases hc with⟨rfl,rfl⟩|⟨g,cap,cur,rfl,hb,hg,h1,h2,h3,h4⟩
    · have : m = 0 := by omega
      subst this
      exact⟨⟨by simp,.inl ⟨rfl,rfl⟩⟩,rfl⟩
    · have hv:slV (.slice (some ⟨g,0,none⟩) n cap) 0 m s=.slice (some ⟨g,0,none⟩) m cap:=by
        show sliced (some ⟨g,0,none⟩) 0 m cap s=_
        unfold sliced
        have e:(⟨g,0,none⟩:Addr).add (0*s)=⟨g,0,none⟩:=by rw[iY,Nat.zero_mul]
        rw[Option.map_some,e]
        simp
      rw[hv]
      refine⟨⟨by rw[length_take];omega,.inr ⟨g,cap,cur,rfl,hb,hg,by omega,h2,h3,?_⟩⟩,rfl⟩
      rw[←h4,List.take_take,Nat.min_eq_left hle]
  refine h.turn rfl rfl rfl (Nat.le_refl _) (fun b _ _=>rfl) (qG _ _ _ _ _) (fun b hf=>.inl ?_) (fun b hf=>?_) key.1
  · show v.ownBlock = some b
    rw[←key.2];exact hf
  · have : (rowE e s v n xs).foot b := by show v.ownBlock = some b; rw [← key.2]; exact hf
    exact(h.new _ mem_cons_self b this).2
theorem yY {w0:World}{ps l:List HP}{j:Nat}{p':HP}(h:j<ps.length):Conv w0 (p'::bigE ps::l) (bigE (ps.set j p')::l):=fun w e=>by
  have B:Mem w0 (bigE ps::p'::l) w:=e.perm (.swap _ _ _)
  have D:=vM (j:=j) (p:=ps[j]) (List.getElem?_eq_getElem h) w B
  have E:Mem w0 (bigE (ps.eraseIdx j)::p'::l) w:=D.sub (List.sublist_cons_self _ _)
  exact rE h w (E.perm (.swap _ _ _))
theorem Dg {w0:World}{l:List HP}{es:List IR}{j:Nat}{e':IR}(h:j<es.length):Conv w0 (irPart e'::bigE (es.map irPart)::l) (bigE ((es.set j e').map irPart)::l):=fun w e=>by
  rw[List.map_set];exact yY (by rw[length_map];exact h) w e
theorem zA {w0:World}{l:List HP}{es:List IR}{j:Nat}(h:j<es.length):Conv w0 (bigE (es.map irPart)::l) (irPart (es.getD j ir0)::bigE ((es.map irPart).eraseIdx j)::l):=
  vM (by rw[List.getElem?_map,yT h (d:=ir0)];rfl)
theorem vL {w0:World}{l:List HP}{es:List IR}{j:Nat}{e':IR}(h:j<es.length):Conv w0 (irPart e'::bigE ((es.map irPart).eraseIdx j)::l) (bigE ((es.set j e').map irPart)::l):=fun w e=>by
  rw[List.map_set];exact rE (by rw[length_map];exact h) w e
theorem Mem.irNil {w0 w:World}{l:List HP}(h:Mem w0 l w) (n:Nat):Mem w0 (bigE ((replicate n ir0).map irPart)::l) w:=by
  refine Mem.big ?_
  rw[List.map_replicate]
  exact h.bigNil _ _ n
theorem lT {α:Type}{d:α}{n i:Nat}:(replicate n d).getD i d=d:=by
  rw[getD_eq_getElem?_getD,List.getElem?_replicate];split<;>rfl
theorem kZ {α:Type}{d:α}{l:List α}{i j:Nat}{x:α}(h:i<l.length):(l.set i x).getD j d=if i=j then x else l.getD j d:=by
  by_cases e:i=j
  · subst e;rw[if_pos rfl,fQ h]
  · rw[if_neg e,getD_eq_getElem?_getD,List.getElem?_set_ne e,←getD_eq_getElem?_getD]
structure SOk (d:Dev) (N k:Nat) (es:List IR):Prop where
  len:es.length=N
  src:∀i:Nat,i<k→(es.getD i ir0).xs=srcI d i
theorem Jr (d:Dev) (N:Nat):SOk d N 0 (replicate N ir0):=⟨AI,fun i h=>absurd h O⟩
theorem SOk.step {d:Dev}{N k:Nat}{es:List IR}(h:SOk d N k es) (B:k<N) {v:Value}:SOk d N (k+1) (es.set k (IR.mk v (srcI d k))):=by
  have D:=h.len
  refine⟨by rw[length_set];exact h.len,fun i E=>?_⟩
  rw[kZ O]
  by_cases e:k=i
  · subst e;rw[if_pos rfl]
  · rw[if_neg e];exact h.src i O
structure KOk (d:Dev) (N n i:Nat) (ks:List IR):Prop where
  len:ks.length=N
  mem:∀x:Nat,x<N→∀m:Int,m∈(ks.getD x ir0).xs↔(0≤m∧m<n∧(x:Int)∈srcI d m)∨(m=n∧(x:Int)∈(srcI d n).take i)
  sz:∀x:Nat,x<N→(ks.getD x ir0).xs.length≤16*n+i
theorem Kk (d:Dev) (N:Nat):KOk d N 0 0 (replicate N ir0):=⟨AI,fun x e m=>by rw[lT];simp;omega,fun x e=>by rw[lT];simp⟩
theorem KOk.step {d:Dev}{N n i:Nat}{ks:List IR}(h:KOk d N n i ks) (hi:i<(srcI d n).length) {s:Int}(hs:(srcI d n).getD i 0=s) (h0:0≤s) (h1:s<N) {v:Value}:KOk d N n (i+1) (ks.set s.toNat (IR.mk v ((ks.getD s.toNat ir0).xs++[(n:Int)]))):=by
  have hl:=h.len
  have ht:=kD hi
  refine⟨by rw[length_set];exact h.len,fun x hx m=>?_,fun x hx=>?_⟩
  · rw [kZ (by omega), ht, hs]
    by_cases e:s.toNat=x
    · rw [if_pos e]
      show m∈_++[(n:Int)]↔_
      rw[List.mem_append,e,h.mem x hx m,List.mem_append,mem_singleton,mem_singleton]
      have:(x:Int)=s:=by omega
      simp only[this,or_true,and_true]
      constructor
      · rintro ((h2 | ⟨h2, h3⟩) | h2)
        · exact .inl h2
        · exact .inr h2
        · exact .inr h2
      · rintro (h2 | h2)
        · exact .inl (.inl h2)
        · exact .inr h2
    · rw [if_neg e, h.mem x hx m, List.mem_append, mem_singleton]
      have:¬(x:Int)=s:=by omega
      simp only[this,or_false]
  · rw [kZ (by omega)]
    split
    · have := h.sz s.toNat (by omega)
      rw[length_append,length_singleton];omega
    · have:=h.sz x hx;omega
theorem KOk.next {d:Dev}{N n i:Nat}{ks:List IR}(h:KOk d N n i ks) (hi:i=(srcI d n).length):KOk d N (n+1) 0 ks:=by
  subst hi
  refine⟨h.len,fun x hx m=>?_,fun x hx=>?_⟩
  · rw [h.mem x hx m, take_length]
    constructor
    · rintro (⟨h1, h2, h3⟩ | ⟨h1, h2⟩)
      · exact .inl ⟨h1,by omega,h3⟩
      · subst h1;exact .inl ⟨by omega,by omega,h2⟩
    · rintro (⟨h1, h2, h3⟩ | ⟨h1, h2⟩)
      · by_cases e : m = n
        · subst e;exact .inr ⟨rfl,h3⟩
        · exact .inl ⟨h1,by omega,h3⟩
      · simp at h2
  · have := h.sz x hx
    have:=oG d (n:Int)
    omega
structure Gr where
  sv:Value
  kv:Value
  so:List IR
  ks:List IR
abbrev grE (b:Nat) (g:Gr):HP:=bigE [boxE b #[g.sv,g.kv] 83,irsE g.sv g.so,irsE g.kv g.ks]
structure RdsGr (w:World) (b:Nat) (g:Gr):Prop where
  c0:w.cell? ⟨b,0,none⟩=some g.sv
  c1:w.cell? ⟨b,1,none⟩=some g.kv
  so:RdsIr w g.sv g.so
  ks:RdsIr w g.kv g.ks
theorem RdsGr.lt {w:World}{b:Nat}{g:Gr}(h:RdsGr w b g):b<w.heap.size:=World.block_lt_of_cell? _ _ h.c0
theorem RdsGr.below {w B:World}{b:Nat}{g:Gr}(h:RdsGr w b g) (e:Below w.heap.size w B):RdsGr B b g:=⟨(e.cell (p:=⟨b,0,none⟩) h.lt).trans h.c0,(e.cell (p:=⟨b,1,none⟩) h.lt).trans h.c1,h.so.below e,h.ks.below e⟩
theorem yS {w0:World}{l:List HP}{b:Nat}{g:Gr}(i:Nat) (E:l[i]? = some (grE b g)) (w:World) (G:Mem w0 l w):RdsGr w b g:=by
  obtain⟨e, -⟩:=G.holds _ (cT E)
  have B:=(e _ (mem_cons_self)).2
  have J:=(e _ (mem_cons_of_mem _ mem_cons_self)).2
  have K:=(e _ (mem_cons_of_mem _ (mem_cons_of_mem _ mem_cons_self))).2
  have R:∀(v:Value) (rs:List IR),(irsE v rs).holds w→RdsIr w v rs:=fun v rs h=>by
    obtain⟨D, -⟩:=h
    have M:=(D _ (mem_cons_self)).2
    have U:=(D _ (mem_cons_of_mem _ mem_cons_self)).2
    exact⟨cI U,fun r X=>cI (M.1 (irPart r) (List.mem_map.2 ⟨r,X,rfl⟩)).2⟩
  exact⟨(gQ B).trans rfl,(gQ B).trans rfl,R _ _ J,R _ _ K⟩
structure GrOk (d:Dev) (N:Nat) (g:Gr):Prop where
  so:SOk d N N g.so
  ks:KOk d N N 0 g.ks
def kOf (ks:List IR) (x:Int):List Int:=(ks.getD x.toNat ir0).xs
theorem lH {d:Dev}{k s:Int}(h:s∈srcI d k):0≤s∧s<allI d:=by
  have e:nodeOkI d k=true:=by
    apply Decidable.byContradiction
    intro B
    rw[Ca d k B] at h;simp at h
  obtain⟨D,k0,jH⟩:=fN e
  obtain⟨-,E,G⟩:=fN (Ds D k0 jH s h).1
  omega
theorem GrOk.srcs {d:Dev}{N:Nat}{g:Gr}(h:GrOk d N g) (hd:devB d=true) (hN:(N:Int)=allI d) {cs:List Int}(hc:cs.length=N) (hcr:∀k,k<cs.length→1≤cs.getD k 0∧cs.getD k 0≤100000):GrS N (srcI d) (kOf g.ks) cs:=by
  obtain⟨ra1,ra2⟩:=eM hd
  refine⟨by omega,hc,fun k k0 jH=>hcr k.toNat (by omega),fun k k0 jH s hs=>?_,fun x x0 x1 n=>?_⟩
  · have:=lH hs;omega
  · unfold kOf
    rw[h.ks.mem x.toNat (by omega) n,Int.toNat_of_nonneg x0]
    simp
    constructor
    · rintro ⟨h1,h2,h3⟩;exact⟨⟨h1,h2⟩,h3⟩
    · rintro ⟨⟨h1,h2⟩,h3⟩;exact⟨h1,h2,h3⟩
abbrev Cn.agg (r:Cn):Value:=.agg #[.int .i64 r.nd,.int .i64 r.sb,.int .i64 r.sp,r.kv]
def snkL (d:Dev) (pl:List Int) (ps:List Pn) (k:Nat):List Int:=(ps.take k).map fun q=>inPinI d (pl.getD q.b.toNat 0) q.p
theorem tR {α:Type}{l:List α}{k:Nat}(d:α) (h:k<l.length):l.take (k+1)=l.take k++[l.getD k d]:=by
  rw[List.take_succ_eq_append_getElem h,getD_eq_getElem?_getD,List.getElem?_eq_getElem h];rfl
theorem zR (d:Dev) (pl:List Int) {ps:List Pn}{k:Nat}(h:k<ps.length):snkL d pl ps k++[inPinI d (pl.getD (ps.getD k pn0).b.toNat 0) (ps.getD k pn0).p]=snkL d pl ps (k+1):=by
  unfold snkL;rw[tR pn0 h,map_append];rfl
theorem tF (d:Dev) (pl:List Int) {ps:List Pn}{k:Nat}(h:k≤ps.length):(snkL d pl ps k).length=k:=by simp[snkL];omega
def rowQ (e:Nat) (v:Value) (n:Nat) (xs:List Value):HP:=⟨fun k=>v.ownBlock=some k,fun w=>xs.length=n∧∃g off cap cur,v=.slice (some ⟨g,off,none⟩) n cap∧w.heap[g]? = some (.cells cur e (0,0))∧n≤cap∧cap≤maxLen∧off+cap≤cur.size∧(cur.toList.drop off).take n=xs⟩
theorem yA (e:Nat) (v:Value) (n:Nat) (xs:List Value):(rowQ e v n xs).Ok:=fun w M U G ⟨J,g,off,B,D,E,K,h⟩=>⟨J,g,off,B,D,E,(G g (by subst E;rfl)).trans K,h⟩
theorem Mem.toQ {w0 w:World}{l:List HP}{e n:Nat}{v:Value}{xs:List Value}(G:0<n) (h:Mem w0 (rowE e 1 v n xs::l) w):Mem w0 (rowQ e v n xs::l) w:=by
  have B:w.ownsRow 0 e 1 v n xs:=h.holds _ mem_cons_self
  refine h.turn rfl rfl rfl (Nat.le_refl _) (fun b _ _=>rfl) (yA _ _ _ _) (fun b D=>.inl D) (fun b D=>(h.new _ mem_cons_self b D).2) ?_
  obtain⟨J,E⟩:=B
  rcases E with⟨rfl,K⟩|⟨g,cap,cur,rfl, -,hg,h1,h2,h3,h4⟩
  · omega
  · exact⟨O,g,0,cap,cur,rfl,hg,h1,h2,O,by simpa using h4⟩
theorem slQ_p {g off n cap:Nat}(h:n+1≤cap):∃off',slV (.slice (some ⟨g,off,none⟩) (n+1) cap) 1 (n+1) 1=.slice (some ⟨g,off',none⟩) n (cap-1)∧(off'=off+1∨(cap=1∧off'=off)):=by
  show ∃off',sliced (some ⟨g,off,none⟩) 1 (n+1) cap 1=_∧_
  unfold sliced
  by_cases e:cap=1
  · exact⟨off,by rw[if_pos e];simp,.inr ⟨e,rfl⟩⟩
  · refine ⟨off + 1, ?_, .inl rfl⟩
    rw[if_neg e,Option.map_some,iY]
    simp
theorem Mem.tailQ {w0 w:World}{l:List HP}{e n m:Nat}{v:Value}{xs:List Value}(hm:m=n+1) (h:Mem w0 (rowQ e v m xs::l) w):Mem w0 (rowQ e (slV v 1 m 1) n (xs.drop 1)::l) w:=by
  subst hm
  obtain⟨hl,g,off,cap,cur,rfl,hg,h1,h2,h3,h4⟩:=h.holds _ mem_cons_self
  obtain⟨off',hv,ho⟩:=slQ_p (g:=g) (off:=off) h1
  rw[hv]
  refine h.turn rfl rfl rfl (Nat.le_refl _) (fun b _ _=>rfl) (yA _ _ _ _) (fun b hf=>.inl hf) (fun b hf=>(h.new _ mem_cons_self b hf).2) ?_
  refine⟨by rw[length_drop];omega,g,off',cap-1,cur,rfl,hg,by omega,by omega,by omega,?_⟩
  rcases ho with rfl|⟨rfl,rfl⟩
  · rw[←h4,List.drop_take,List.drop_drop];simp
  · have : n = 0 := by omega
    subst this
    rw[List.take_zero]
    have:xs.drop 1=[]:=List.drop_eq_nil_of_le (by omega)
    rw[this]
theorem rdsW_Q {w:World}{e n:Nat}{v:Value}{xs:List Value}(h:(rowQ e v n xs).holds w):RdsW w v 1 n xs:=by
  obtain⟨E,g,off,G,J,rfl,K,M,U,Y,X⟩:=h
  refine⟨_,_,rfl,O,⟨by unfold maxLen at U;omega,M⟩,fun _=>⟨g,off,rfl,fun j u B=>?_⟩⟩
  rw[gQ K]
  have D:j<n:=by rw[←E];exact(List.getElem?_eq_some_iff.1 B).1
  rw[←X,List.getElem?_take,if_pos D,List.getElem?_drop] at B
  simpa using B
theorem Ka {w0:World}{l:List HP}{e n:Nat}{v:Value}{xs:List Value}(i:Nat) (h:l[i]? = some (rowQ e v n xs)):Rd w0 l v 1 n xs:=fun w B=>rdsW_Q (B.holds _ (cT h))
theorem Gk {P : Program} (w : World) {t ty e : TypeId} {i : TypeInfo} {z : Value} (ht : P.underlying t = some (.slice e)) (hi : P.info? e = some i) (hz : i.zero = some z) (hsize : i.size = 1) (hby : i.bytes ≤ 1000) (hzs : z.cells.size = 1)
    {v:Value}{n:Nat}{xs:List Value}(hown:(rowQ e v n xs).holds w) (a:Addr) (c:Nat) (x:Value) (hx:w.cell? (a.add 0)=some x) (h1:x.oneCell'=true) (hn:n+1≤100000000000) :
    ∃v' w',(Builtin.append_ #[t,t] ty #[v,.slice (some a) 1 c]).run P w=.ok v' w'∧(rowQ e v' (n+1) (xs++[x])).holds w'∧w.grownBy w' v.ownBlock∧(v'.ownBlock=v.ownBlock∨v'.ownBlock=some w.heap.size):=by
  obtain⟨hl,g,off,cap,cur,rfl,hg,hc1,hc2,hc3,hc4⟩:=hown
  have hnews:∀j u,[x][j]? = some u→w.cell? (a.add j)=some u:=fun j u hj=>by
    cases j with
    | zero=>simp at hj;subst hj;exact hx
    | succ j=>simp at hj
  have hone:∀u∈[x],u.oneCell'=true:=fun u hu=>by rw[mem_singleton] at hu;subst hu;exact h1
  have hlen:(xs++[x]).length=n+1:=by rw[length_append,length_singleton,hl]
  by_cases hroom:n+1≤cap
  · have hlt : off + n < cur.size := by omega
    have hr:=run_append_room_cells (P:=P) w t ty e i ht hi g off n cap a 1 c [x] (by rw[hsize];rfl) hnews hone hroom
      (fun j hj=>by
        have:j=0:=by simpa using hj
        subst this
        rw[gQ hg,hsize]
        simp;omega)
      (fun j hj=>by
        have:j=0:=by simpa using hj
        subst this
        exact lU hg)
    refine⟨_,_,hr,⟨hlen,g,off,cap,cur.setIfInBounds (off+n) x,rfl,?_,hroom,hc2,by rw[Array.size_setIfInBounds];exact hc3,?_⟩,⟨?_,?_,?_,?_,fun k _ hk=>?_⟩,.inl rfl⟩
    · rw [hsize, Nat.mul_one]
      exact heap_setCell_same w g (off+n) cur e x hg
    · have e1 : (cur.setIfInBounds (off + n) x).toList = cur.toList.set (off + n) x := by simp
      rw[e1,List.drop_set,if_neg (by omega),show off+n-off=n by omega]
      have hdl:n<(cur.toList.drop off).length:=by rw[length_drop,Array.length_toList];omega
      rw[List.take_succ_eq_append_getElem (by rw[length_set];exact hdl),List.take_set_of_le (Nat.le_refl _),hc4]
      simp
    · rfl
    · rfl
    · rfl
    · rw [hsize, Nat.mul_one]
      show w.heap.size≤(w.setCell ⟨g,off+n,none⟩ x).heap.size
      simp
    · rw [hsize, Nat.mul_one]
      exact heap_setCell_other w ⟨g,off+n,none⟩ k x (fun e=>hk (by simp[Value.ownBlock,e]))
  · have holds:∀j u,xs[j]? = some u→w.cell? ((⟨g,off,none⟩:Addr).add j)=some u:=fun j u hj=>by
      rw[iY,gQ hg]
      have hlt:j<n:=by rw[←hl];exact(List.getElem?_eq_some_iff.1 hj).1
      rw[←hc4,List.getElem?_take,if_pos hlt,List.getElem?_drop] at hj
      simpa using hj
    have hbytes:(n+1)*i.bytes≤140737488355328:=by have:=Nat.mul_le_mul hn hby;omega
    have hr:=run_append_grow (P:=P) w t ty e i z ht hi hz ⟨g,off,none⟩ n cap xs (by rw[hsize];omega) holds a 1 c [x] (by rw[hsize];rfl) hnews (by omega) (by omega) (growslice_fits (by omega) hbytes)
    have hge:=grownCap_ge w (n+1) cap e
    have hcm:grownCap w (n+1) cap e≤maxLen:=grownCap_le_maxLen w (n+1) cap e (by unfold maxLen;omega)
    refine⟨_,_,hr,⟨hlen,w.heap.size,0,_,_,rfl,heap_alloc_new w.drew _,hge,hcm,?_,?_⟩,⟨rfl,rfl,rfl,by simp,fun k hk _=>heap_alloc_old w.drew _ hk⟩,.inr rfl⟩
    · simp only [Array.size_append, List.size_toArray, size_zeroCells, hzs, length_append, length_singleton]
      omega
    · simp only [Array.toList_append, drop_zero]
      rw[←hlen]
      exact List.take_left
section
variable {P:Program}{N:Nat}{w0:World}{l:List HP}{env:List (Nat×Value)}{o:Oper}{ops:Array Oper}{rest:List Oper}{Q:Post}{d:Nat}
theorem Dd {t e bytes n i:Nat}{x y:Operand}{v u z q:Value}{xs:List Value}(hd:o.dst=some d) (hN:Nat.blt d N=true) (hw:want ops env o.guard=some true) (ho:o.op=.call { callee:=.builtin .append,args:=#[x,y],argTypes:=#[t,t] })
    (hu:P.underlying t=some (.slice e)) (E:(P.info? e).map (fun i=>(i.zero,i.size,i.bytes))=some (some z,1,bytes)) (G:(Nat.beq z.cells.size 1&&Nat.blt 0 1&&Nat.ble bytes 1000)=true)
    (hx:ev env x=some v) (hy:ev env y=some u) (hi:l[i]? = some (rowQ e v n xs)) (hr:Rd w0 l u 1 1 [q]) (h1:q.oneCell'=true) (U:n+1≤100000000000)
    {n':Nat}{xs':List Value}(X:n+1=n') (Y:xs++[q]=xs') {L:Value→List HP}(hL:∀B,l.set i (rowQ e B n' xs')=L B)
    (k:∀B,HL P N ops w0 (L B) ((d,B)::env) rest Q):HL P N ops w0 l env (o::rest) Q:=fun a w D=>wpList_step fun K hK=>by
  rw[if_pos (D.wanted hw)]
  unfold Oper.wp
  obtain⟨aa,Z,hz,hs,ab⟩:=info_parts E
  simp only[and_eq_true,Nat.beq_eq,Nat.blt_eq,Nat.ble_eq] at G
  obtain⟨⟨a0,ac⟩,ae⟩:=G
  obtain⟨ad,a1,rfl,hl,hm,hc⟩:=hr w D.mem
  obtain⟨b,off,rfl,a2⟩:=hc O
  obtain⟨B,w',e1,e2,J,e4⟩:=Gk (P:=P) w (ty:=o.type) hu Z hz hs O a0 (D.mem.holds _ (cT hi)) ⟨b,off,none⟩ a1 q (by rw[iY];exact a2 0 q rfl) h1 U
  have a3:(execOp a.eval o).run P w=.ok (.value B) w':=by
    simp only[execOp,ho,resolve,invoke,builtin,Sem.run_bind,Sem.run_pure,Result.andThen_ok,List.map_toArray,map_cons,map_nil,D.eval hx,D.eval hy,e1]
  rw[a3,Oper.upon_value,hd]
  subst X Y
  have a4:Mem w0 (l.set i (rowQ e B (n+1) (xs++[q]))) w':=D.mem.turnAt hi J.os J.tape J.output J.size (fun k M hf=>J.block k M (fun e=>hf e.symm)) (yA _ _ _ _) (fun k M=>by
    have h:B.ownBlock=some k:=M
    rcases e4 with h5|h5
    · exact .inl (show v.ownBlock=some k from h5▸h)
    · rw[h5] at h;cases h;exact .inr (Nat.le_refl _)) (fun k M=>by
    obtain⟨-,g2,a7,a8,a9,a5,a6, -⟩:=e2
    have h:B.ownBlock=some k:=M
    rw[a5] at h
    have:g2=k:=by simpa [Value.ownBlock] using h
    subst this
    exact(Array.getElem?_eq_some_iff.1 a6).1) e2
  refine hK _ _ (k B _ _ (D.put hN ?_))
  rw[←hL]
  exact a4
end
def crossB (d:Dev) (low:Int→Bool) (n:Int):Bool:=isWireI d n&&(reachS d n).any fun t=>low (n / perI d) != low t
structure SepInv (d:Dev) (N:Nat) (ws:List Int) (src:Int) (bs:List Bl) (td:List Int):Prop where
  len:bs.length=N
  tdo:∀x∈td,((0≤x∧x<N)∧¬x∈ws)∧(bs.getD x.toNat bl0).b=true
  wal:∀x∈ws,0≤x∧x<N∧(bs.getD x.toNat bl0).b=true
  side:∀low:Int→Bool,(∀x:Int,0≤x→x<N→crossB d low x=true→x∈ws)→∀x:Int,0≤x→x<N→(bs.getD x.toNat bl0).b=true→¬x∈ws→low (x / perI d)=low (src / perI d)
def cntF:List Bl→Nat
  | []=>0
  | b::bs=>(if b.b then 0 else 1)+cntF bs
theorem rH:∀(e:List Bl) (j:Nat) (c:Bl),j<e.length→(e.getD j bl0).b=false→c.b=true→cntF (e.set j c)+1=cntF e
  | [],j,c,h,_,_=>by simp at h
  | b::e,0,c,_,h,hc=>by
    have B:b.b=false:=h
    simp only[List.set_cons_zero,cntF,B,hc];simp;omega
  | b::e,j+1,c,h,h2,hc=>by
    have:=rH e j c (by simpa using h) h2 hc
    simp only[List.set_cons_succ,cntF];omega
theorem Eu:∀e:List Bl,cntF e≤e.length
  | []=>Nat.le_refl _
  | b::e=>by have:=Eu e;simp only[cntF,length_cons];split<;>omega
theorem Iy {e:List Bl}{j:Nat}{c:Bl}(h:j<e.length) {k:Nat}:(e.set j c).getD k bl0=if j=k then c else e.getD k bl0:=kZ h
structure WsM (N:Nat) (ws:List Int) (i:Nat) (bs:List Bl):Prop where
  len:bs.length=N
  mks:∀x:Int,0≤x→x<N→((bs.getD x.toNat bl0).b=true↔x∈ws.take i)
theorem wJ (N:Nat) (ws:List Int):WsM N ws 0 (replicate N bl0):=⟨AI,fun x e h=>by rw[lT];simp⟩
theorem WsM.more {N:Nat}{ws:List Int}{i:Nat}{bs:List Bl}{c:Bl}(h:WsM N ws i bs) (hi:i<ws.length) (hr:0≤ws.getD i 0∧ws.getD i 0<N) (hc:c.b=true):WsM N ws (i+1) (bs.set (ws.getD i 0).toNat c):=by
  have hl:=h.len
  refine⟨by rw[length_set];exact hl,fun x x0 x1=>?_⟩
  rw[Iy (by omega),kD hi,List.mem_append,mem_singleton]
  by_cases e:(ws.getD i 0).toNat=x.toNat
  · rw[if_pos e];exact⟨fun _=>.inr (by omega),fun _=>hc⟩
  · rw [if_neg e, h.mks x x0 x1]
    exact⟨.inl,fun h=>h.resolve_right (fun e2=>e (by rw[e2]))⟩
theorem Mem.tailI {w0 w:World}{l:List HP}{e:Nat}{v:Value}{q:List Int}(B:0<q.length) (h:Mem w0 (rowQ e v q.length (q.map (Value.int .i64))::l) w):Mem w0 (rowQ e (slV v (1:Int).toNat q.length 1) (q.drop 1).length ((q.drop 1).map (Value.int .i64))::l) w:=by
  have:=h.tailQ (n:=(q.drop 1).length) (by rw[length_drop];omega)
  rw[List.map_drop];exact this
theorem Fz {α:Type}(f:α→List Value) (xs:List α) (h:∀r u,u∈f r→u.oneCell'=true):∀q∈xs.flatMap f,q.oneCell'=true:=fun q e=>by
  obtain⟨r, -,B⟩:=List.mem_flatMap.1 e
  exact h r q B
theorem wN {d:Dev}{N:Nat}{g:Gr}(h:GrOk d N g) {x n:Int}(B:0≤x) (D:x<N) (E:n∈(g.ks.getD x.toNat ir0).xs):0≤n∧n<N∧x∈srcI d n:=by
  have e:=(h.ks.mem x.toNat O n).1 E
  rw[Int.toNat_of_nonneg B] at e
  rcases e with e|⟨_,h2⟩
  · exact e
  · simp at h2
open Go.RowKit
theorem sP {k:Int}(e:¬k=0) (h:¬k=1) (B:¬k=2):inPinsI k=0:=by unfold inPinsI;simp[e,h,B]
theorem qJ {k:Int}(e:¬k=0) (h:¬k=1) (B:¬k=2):outPinsI k=0:=by unfold outPinsI;simp[e,h,B]
theorem tkc (d:Dev) (t:Int):tileKindI d t = -1∨(tOk d t=true∧tileKindI d t=kindI d t):=by
  unfold tileKindI;split
  · exact .inr ⟨I,rfl⟩
  · exact .inl rfl
theorem Ej (d:Dev) (t:Int):0≤inPinsI (tileKindI d t)∧inPinsI (tileKindI d t)≤5∧(0<inPinsI (tileKindI d t)→tOk d t=true):=by
  rcases tkc d t with e|⟨e1,e2⟩
  · rw[e,sP (by omega) (by omega) (by omega)];omega
  · have h := uV d t
    rw[e2];exact⟨by omega,by omega,fun _=>e1⟩
theorem qI (d:Dev) (t:Int):0≤outPinsI (tileKindI d t)∧outPinsI (tileKindI d t)≤2∧(0<outPinsI (tileKindI d t)→tOk d t=true):=by
  rcases tkc d t with e|⟨e1,e2⟩
  · rw[e,qJ (by omega) (by omega) (by omega)];omega
  · have h := iQ d t
    rw[e2];exact⟨by omega,by omega,fun _=>e1⟩
theorem iR (d:Dev) (t p:Int):(0≤p∧p<inPinsI (tileKindI d t)→inPinI d t p=t*perI d+p)∧(¬(0≤p∧p<inPinsI (tileKindI d t))→inPinI d t p = -1):=by
  unfold inPinI
  rcases tkc d t with e|⟨e1,e2⟩
  · rw [e, sP (by omega) (by omega) (by omega)]
    refine⟨fun h=>by omega,fun _=>if_neg fun h=>?_⟩
    have:=gH h.1;have h3:=fX d t;rw[e] at this;rcases h3 with h3|h3|h3<;>omega
  · rw [e2]
    exact⟨fun h=>if_pos ⟨e1,h.1,by omega⟩,fun h=>if_neg fun q=>h ⟨q.2.1,by omega⟩⟩
theorem gA (d:Dev) (t p:Int):(0≤p∧p<outPinsI (tileKindI d t)→outPinI d t p=t*perI d+5+p)∧(¬(0≤p∧p<outPinsI (tileKindI d t))→outPinI d t p = -1):=by
  unfold outPinI
  rcases tkc d t with e|⟨e1,e2⟩
  · rw [e, qJ (by omega) (by omega) (by omega)]
    refine⟨fun h=>by omega,fun _=>if_neg fun h=>?_⟩
    have:=gH h.1;have h3:=fX d t;rw[e] at this;rcases h3 with h3|h3|h3<;>omega
  · rw [e2]
    exact⟨fun h=>if_pos ⟨e1,h.1,by omega⟩,fun h=>if_neg fun q=>h ⟨q.2.1,by omega⟩⟩
def srcN (d:Dev) (pl:List Int) (c:Cn):Int:=if 0≤c.sb∧c.sb<pl.length then outPinI d (pl.getD c.sb.toNat 0) c.sp else -1
def SnkOk (d:Dev) (pl:List Int) (q:Pn):Prop:=(0≤q.b∧q.b<pl.length)∧0≤inPinI d (pl.getD q.b.toNat 0) q.p
instance (d:Dev) (pl:List Int) (q:Pn):Decidable (SnkOk d pl q):=by unfold SnkOk;exact inferInstance
def snkG (d:Dev) (pl:List Int) (ks:List Pn):List Int:=if ∀q∈ks,SnkOk d pl q then snkL d pl ks ks.length else []
theorem kK {d:Dev}{pl:List Int}{e:List Pn}{i:Nat}(B:i<e.length) (h:¬SnkOk d pl (e.getD i pn0)):snkG d pl e=[]:=if_neg fun q=>h (q _ (eN B))
theorem mM {d:Dev}{pl:List Int}{B:List Pn}(h:∀k,k<B.length→SnkOk d pl (B.getD k pn0)):snkG d pl B=snkL d pl B B.length:=if_pos fun q E=>by
  obtain⟨k,D,e⟩:=List.getElem_of_mem E
  have:=h k D
  rwa [getD_eq_getElem?_getD,List.getElem?_eq_getElem D,Option.getD_some,e] at this
theorem sX (k:Int) (w:World)  :
   Calls Tryz.prog 59 #[.int .i64 k] w (Ans w (.int .i64 (inPinsI k))):=by
 refine aY (N:=10) (args:=[jI k]) Tryz.func59 A A (cF 1 A (aG (cF 1 A (go ?_))))
 refine bZ A A A A A A (fun e=>go ?_) (fun e=>go ?_)
 exact aT A A (by unfold inPinsI;simp[*])
 refine bZ A A A A A A (fun h=>go ?_) (fun h=>go ?_)
 exact aT A A (by unfold inPinsI;simp[*])
 refine bZ A A A A A A (fun B=>go ?_) (fun B=>go ?_)
 exact aT A A (by unfold inPinsI;simp[*])
 exact aT A A (by unfold inPinsI;simp[*])
theorem rO (k:Int) (w:World)  :
   Calls Tryz.prog 61 #[.int .i64 k] w (Ans w (.int .i64 (outPinsI k))):=by
 refine aY (N:=9) (args:=[jI k]) Tryz.func61 A A (cF 1 A (aG (cF 1 A (go ?_))))
 refine bZ A A A A A A (fun e=>go ?_) (fun e=>go ?_)
 exact aT A A (by unfold outPinsI;simp[*])
 refine bZ A A A A A A (fun h=>go ?_) (fun h=>go ?_)
 exact aT A A (by unfold outPinsI;simp[*])
 refine bZ A A A A A A (fun B=>go ?_) (fun B=>go ?_)
 exact aT A A (by unfold outPinsI;simp[*])
 exact aT A A (by unfold outPinsI;simp[*])
theorem tY (d:Dev) (t p:Int) (w:World) (X : -1000≤p) (Y:p≤1000) :
   Calls Tryz.prog 34 #[.agg #[.int .i64 d.W,.int .i64 d.H,.int .i64 d.T,.int .i64 d.R],.int .i64 t,.int .i64 p] w (Ans w (.int .i64 (inPinI d t p))):=by
 have e:=Ej d t
 refine aY (N:=23) (args:=[.agg #[jI d.W,jI d.H,jI d.T,jI d.R],jI t,jI p]) Tryz.func34 A A (dW ?_)
 refine cU A (cE A A) fun Z=>go ?_
 refine aW A A A A A A (fun G=>go ?_) (fun G=>go ?_)
 exact aT A A (by first|rw[(iR d t p).1 ⟨O,O⟩]|rw[(iR d t p).2 O])
 refine cM A (aF A A (fun w D=>aI (cQ d _ w))) (cM A (aF A A (fun w D=>aI (sX _ w))) ?_)
 refine eK A A A A A A (fun J=>go ?_) (fun J=>go ?_)
 exact aT A A (by first|rw[(iR d t p).1 ⟨O,O⟩]|rw[(iR d t p).2 O])
 have h:=e.2.2 O
 obtain⟨B,K,E⟩:=(fC _ _).1 h
 have M:=lI B K E
 have U:=pV B E
 refine cM A (aF A A (fun w D=>aI (eW d B w))) (aN A (eZ A A A AE) (go ?_))
 exact aT A A (by first|rw[(iR d t p).1 ⟨O,O⟩]|rw[(iR d t p).2 O])
theorem sW (d:Dev) (t p:Int) (w:World) (X : -1000≤p) (Y:p≤1000) :
   Calls Tryz.prog 33 #[.agg #[.int .i64 d.W,.int .i64 d.H,.int .i64 d.T,.int .i64 d.R],.int .i64 t,.int .i64 p] w (Ans w (.int .i64 (outPinI d t p))):=by
 have e:=qI d t
 refine aY (N:=24) (args:=[.agg #[jI d.W,jI d.H,jI d.T,jI d.R],jI t,jI p]) Tryz.func33 A A (dW ?_)
 refine cU A (cE A A) fun Z=>go ?_
 refine aW A A A A A A (fun G=>go ?_) (fun G=>go ?_)
 exact aT A A (by first|rw[(gA d t p).1 ⟨O,O⟩]|rw[(gA d t p).2 O])
 refine cM A (aF A A (fun w D=>aI (cQ d _ w))) (cM A (aF A A (fun w D=>aI (rO _ w))) ?_)
 refine eK A A A A A A (fun J=>go ?_) (fun J=>go ?_)
 exact aT A A (by first|rw[(gA d t p).1 ⟨O,O⟩]|rw[(gA d t p).2 O])
 have h:=e.2.2 O
 obtain⟨B,K,E⟩:=(fC _ _).1 h
 have M:=lI B K E
 have U:=pV B E
 refine cM A (aF A A (fun w D=>aI (eW d B w))) (aN A (eZ A A A AE) (go ?_))
 exact aT A A (by first|rw[(gA d t p).1 ⟨O,O⟩]|rw[(gA d t p).2 O])
theorem jT (d:Dev) (n:Int) (w:World)  :
   Calls Tryz.prog 50 #[.agg #[.int .i64 d.W,.int .i64 d.H,.int .i64 d.T,.int .i64 d.R],.int .i64 n] w (Ans w (.bool (isWireI d n))):=by
 refine aY (N:=15) (args:=[.agg #[jI d.W,jI d.H,jI d.T,jI d.R],jI n]) Tryz.func50 A A (dW ?_)
 refine cU A (cE A A) fun E=>go ?_
 refine cM A (aF A A (fun w B=>aI (iZ d _ w))) (bD (fun e=>go ?_) (fun e=>go ?_))
 obtain⟨h,G,J⟩:=fN e
 obtain⟨K,M⟩:=fR h
 refine cM A (aF A A (fun w B=>aI (eW d h w))) (aN A (fT A A A AE) ?_)
 refine eK A A A A A A (fun D=>go ?_) (fun D=>go ?_)
 exact aT A A (by unfold isWireI;simp[*])
 exact aT A A (by unfold isWireI;simp[*])
 exact aT A A (by unfold isWireI;simp[*])
theorem lM (d:Dev) (pl:List Int) (e:Value) (c:Cn) (w:World) (B:RdsW w e 1 pl.length (pl.map (Value.int .i64))) (D:pl.length≤64) (J : -1000≤c.sp) (K:c.sp≤1000) (M:c.kv.oneCell'=true) :
   Calls Tryz.prog 13 #[.agg #[.int .i64 d.W,.int .i64 d.H,.int .i64 d.T,.int .i64 d.R],e,.agg #[.int .i64 c.nd,.int .i64 c.sb,.int .i64 c.sp,c.kv]] w (Ans w (.int .i64 (srcN d pl c))):=by
 refine aY (N:=30) (args:=[.agg #[jI d.W,jI d.H,jI d.T,jI d.R],e,.agg #[jI c.nd,jI c.sb,jI c.sp,c.kv]]) Tryz.func13 A A (dW ?_)
 refine cU A (cE A A) fun U=>?_
 refine cU A (cE A A) fun h=>go ?_
 refine aW A A A A A A (fun E=>go ?_) (fun E=>go ?_)
 exact aT A A (by unfold srcN;first|(rw[if_pos ⟨O,O⟩];done)|(rw[if_pos ⟨O,O⟩];rfl)|rw[if_neg O])
 refine eK A A A A A A (fun G=>go ?_) (fun G=>go ?_)
 exact aT A A (by unfold srcN;first|(rw[if_pos ⟨O,O⟩];done)|(rw[if_pos ⟨O,O⟩];rfl)|rw[if_neg O])
 refine bL 11 [[],[],[],[2],[3],[1,4],[5],[],[7],[8],[0,6,9]] [19,20,21,22,23,24,25,26,27,28,29] [.agg #[jI d.W,jI d.H,jI d.T,jI d.R],e,.pointer (some ⟨h,0+1,none⟩),.pointer (some ⟨h,0+1+0,none⟩),jI c.sb,elP e (c.sb.toNat*1),jI (pl.getD (c.sb.toNat) 0),.pointer (some ⟨h,0+1,none⟩),.pointer (some ⟨h,0+1+1,none⟩),jI c.sp,jI (outPinI d (pl.getD (c.sb.toNat) 0) c.sp)] F A ?_ ?_
 exact⟨aJ,aJ,aJ,aJ,aJ,aJ,aJ,aJ,aJ,aJ,.inl ⟨A,aF A A (fun w X=>aI (sW d _ c.sp w O O))⟩,trivial⟩
 simp only[drop_succ_cons,drop_zero]
 refine go ?_
 exact aT A A (by unfold srcN;first|(rw[if_pos ⟨O,O⟩];done)|(rw[if_pos ⟨O,O⟩];rfl)|rw[if_neg O])
theorem lZ (d:Dev) (pl:List Int) (K:Value) (c:Cn) (w:World) (a0:RdsW w K 1 pl.length (pl.map (Value.int .i64))) (a1:pl.length≤64) (M:RdsW w c.kv 2 c.ks.length (c.ks.flatMap pnC)) (a2:c.ks.length≤120) (hb:∀k,k<c.ks.length→-1000≤(c.ks.getD k pn0).p∧(c.ks.getD k pn0).p≤1000) :
   Calls Tryz.prog 14 #[.agg #[.int .i64 d.W,.int .i64 d.H,.int .i64 d.T,.int .i64 d.R],K,.agg #[.int .i64 c.nd,.int .i64 c.sb,.int .i64 c.sp,c.kv]] w (Ret w (fun v' post=>post=[rI9 3 v' (snkG d pl c.ks)])):=by
 refine aY (N:=54) (args:=[.agg #[jI d.W,jI d.H,jI d.T,jI d.R],K,.agg #[jI c.nd,jI c.sb,jI c.sp,c.kv]]) Tryz.func14 A A (dW ?_)
 refine cU A (cE A A) fun b1=>?_
 refine cU A (cE A A) fun b2=>go ?_
 refine cH A (bU (s:=1) A z8 A) fun g3=>go ?_
 refine fP (α:=Nat) (β:=Value) (γ:=List Int) [0,1,2,3,5,6] A (fun i u zs=>[rI9 3 u zs,boxE b2 #[jI c.nd,jI c.sb,jI c.sp,c.kv] 44,boxE b1 #[jI d.W,jI d.H,jI d.T,jI d.R] 25]) (fun i u zs=>[(7,u),(8,jI (i:Int))]) (fun i u zs=>i≤c.ks.length∧(∀k,k<i→SnkOk d pl (c.ks.getD k pn0))∧zs=snkL d pl c.ks i) (fun i u zs=>c.ks.length-i) 0 _ [] ⟨O,fun k G=>O,A⟩ (bV A) (cZ A) fun i u zs U=>go ?_
 obtain⟨hi,e,J⟩:=U
 have a3:zs.length=i:=by rw[J,tF _ _ hi]
 refine aW A A A A A A (fun h5=>go ?_) (fun h5=>go ?_)
 refine aN A (cV 2 A A A A (aE M)) ?_
 refine aN A (bR (k0:=0) A A A (aE M) O) ?_
 have a4:=hb i O
 refine aN A (aL (u:=jI ((c.ks.getD i pn0).b)) A A A (aE M) ((dC pnC 2 (fun _=>A) c.ks pn0 (show i<_ by omega) V).trans A)) (go ?_)
 refine aW A A A A A A (fun h6=>go ?_) (fun h6=>go ?_)
 refine cH A (bU (s:=1) A z8 A) fun g7=>go ?_
 exact bM (post:=[rowE 3 1 (.slice (some ⟨g7,0,none⟩) 0 0) 0 ([])]) A A (eA [0] A) (by first|rw[mM (fun k G=>e k O),J,show i=c.ks.length by omega]|(rw[kK (i:=i) O (fun q=>by obtain⟨⟨B,D⟩,E⟩:=q;omega)];rfl)|rw[kK (i:=i) O (fun q=>by obtain⟨⟨B,D⟩,E⟩:=q;omega)])
 refine eK A A A A A A (fun h8=>go ?_) (fun h8=>go ?_)
 refine cH A (bU (s:=1) A z8 A) fun g9=>go ?_
 exact bM (post:=[rowE 3 1 (.slice (some ⟨g9,0,none⟩) 0 0) 0 ([])]) A A (eA [0] A) (by first|rw[mM (fun k G=>e k O),J,show i=c.ks.length by omega]|(rw[kK (i:=i) O (fun q=>by obtain⟨⟨B,D⟩,E⟩:=q;omega)];rfl)|rw[kK (i:=i) O (fun q=>by obtain⟨⟨B,D⟩,E⟩:=q;omega)])
 refine bL 12 [[],[],[],[1,2],[3],[],[5],[],[6,7],[8],[9],[0,4,10]] [34,35,36,37,38,39,40,41,42,43,44,45] [.agg #[jI d.W,jI d.H,jI d.T,jI d.R],K,jI ((c.ks.getD i pn0).b),elP K (((c.ks.getD i pn0).b).toNat*1),jI (pl.getD (((c.ks.getD i pn0).b).toNat) 0),.pointer (some ⟨b2,0+3,none⟩),c.kv,jI (i:Int),elP c.kv ((i:Int).toNat*2),elP c.kv ((i:Int).toNat*2+1),jI ((c.ks.getD i pn0).p),jI (inPinI d (pl.getD (((c.ks.getD i pn0).b).toNat) 0) ((c.ks.getD i pn0).p))] F A ?_ ?_
 exact⟨aJ,aJ,aJ,aJ,aJ,aJ,aJ,aJ,aJ,fL A (bR (k0:=1) A A A (aE M) O) A,fL A (aL (u:=jI ((c.ks.getD i pn0).p)) A A A (aE M) ((dC pnC 2 (fun _=>A) c.ks pn0 (show i<_ by omega) V).trans A)) A,.inl ⟨A,aF A A (fun w hm=>aI (tY d _ ((c.ks.getD i pn0).p) w O O))⟩,trivial⟩
 simp only[drop_succ_cons,drop_zero]
 refine go ?_
 refine aW A A A A A A (fun X=>go ?_) (fun X=>go ?_)
 refine cH A (bU (s:=1) A z8 A) fun Y=>go ?_
 exact bM (post:=[rowE 3 1 (.slice (some ⟨Y,0,none⟩) 0 0) 0 ([])]) A A (eA [0] A) (by first|rw[mM (fun k G=>e k O),J,show i=c.ks.length by omega]|(rw[kK (i:=i) O (fun q=>by obtain⟨⟨B,D⟩,E⟩:=q;omega)];rfl)|rw[kK (i:=i) O (fun q=>by obtain⟨⟨B,D⟩,E⟩:=q;omega)])
 refine cH A (aH (z:=jI 0) (s:=1) (cs:=(mI [inPinI d (pl.getD (((c.ks.getD i pn0).b).toNat) 0) ((c.ks.getD i pn0).p)])) A z8 A V A F A) fun a5=>?_
 refine bT (i:=1) (z:=jI 0) (bytes:=8) A A A A z8 F A A A A (aB 0 A) (bI _) AD (bK zs ([inPinI d (pl.getD (((c.ks.getD i pn0).b).toNat) 0) ((c.ks.getD i pn0).p)])) (cB zs ([inPinI d (pl.getD (((c.ks.getD i pn0).b).toNat) 0) ((c.ks.getD i pn0).p)])) (fun _=>A) fun Z=>go ?_
 exact aQ (i+1) Z (zs++([inPinI d (pl.getD (((c.ks.getD i pn0).b).toNat) 0) ((c.ks.getD i pn0).p)])) ⟨O,fun k G=>by rcases Nat.lt_succ_iff_lt_or_eq.1 G with h|rfl<;>first|exact e k h|exact⟨⟨O,O⟩,O⟩,by rw[J];exact zR d pl O⟩ O (bV rfl) (eA [1,0,0] rfl)
 exact bM (post:=[rI9 3 u zs]) A A (eA [0] A) (by first|rw[mM (fun k G=>e k O),J,show i=c.ks.length by omega]|(rw[kK (i:=i) O (fun q=>by obtain⟨⟨B,D⟩,E⟩:=q;omega)];rfl)|rw[kK (i:=i) O (fun q=>by obtain⟨⟨B,D⟩,E⟩:=q;omega)])
open Go.RowKit
theorem rY {α:Type}(f:α→List Value) (s:Nat) (e:∀a,(f a).length=s):∀(es:List α) (m:Nat),(es.flatMap f).take (m*s)=(es.take m).flatMap f
  | [],m=>AI
  | a::es,0=>AI
  | a::es,m+1=>by
    rw[List.flatMap_cons,List.take_succ_cons,List.flatMap_cons,←rY f s e es m,List.take_append,e,show(m+1)*s-s=m*s by rw[Nat.add_mul];omega,List.take_of_length_le (by rw[e,Nat.add_mul];omega)]
theorem Mem.cutFlat {α:Type}(f:α→List Value) {w0 w:World}{l:List HP}{e s m:Nat}{v:Value}{es:List α}(D:∀a,(f a).length=s) (B:m≤es.length) (h:Mem w0 (rowE e s v es.length (es.flatMap f)::l) w):Mem w0 (rowE e s (slV v 0 m s) (es.take m).length ((es.take m).flatMap f)::l) w:=by
  have:=h.cutRow (m:=m) B
  rw[rY f s D] at this
  rwa [length_take,Nat.min_eq_left B]
theorem Fk {es:List Qu}(h:0<es.length) {k:Nat}(e:k=es.length-1):(es.getD 0 qu0::(es.set 0 (es.getD k qu0)).take k).Perm es:=by subst e;exact Hm qu0 es h
theorem mE (es:List Qu) (v:Value) (x:Qu) (w0:World) (l:List HP) (w:World) (a1:Mem w0 (rS9 119 2 v es quC::l) w) (hl:es.length≤90000000000) :
   Calls Tryz.prog 103 #[v,.agg #[.int .i64 x.d,.int .i64 x.n]] w (fun e_ w_=>∃M K,e_=.returned M∧(fun M K=>∃X:List Qu,K=rS9 119 2 M (X) quC∧X.Perm (es++[x])) M K∧Mem w0 (K::l) w_):=by
 refine gE (N:=46) (args:=[v,.agg #[jI x.d,jI x.n]]) Tryz.func103 A A a1 (dW ?_)
 refine cU A (cE A A) ?_
 intro b1
 refine bG 1 A (aG (cN 1 A (aN A (aP (cs:=[jI x.d,jI x.n]) A A A A A (aM 0 A 0 A)) ?_)))
 refine cH A (aH (z:=.agg #[jI 0,jI 0]) (s:=2) (cs:=(mI [x.d,x.n])) A Tryz.underlying116 A V A F A) ?_
 intro g2
 refine bT (i:=2) (z:=.agg #[jI 0,jI 0]) (bytes:=16) A A A A Tryz.underlying116 F A A A A (aB 0 A) (bI _) AC (bK es [x]) (dP quC es x _ A) (fun _=>A) ?_
 intro G
 refine bG 1 A (aG (aG (cN 1 A (aN A (eV A A A (aB 2 A)) (aN A (nQ A A A AN) (bG 1 A ?_))))))
 refine bS ?_
 refine nX (α:=Nat) (β:=List Qu) (fun j e=>(rowE 119 2 (.slice (some ⟨g2,0,none⟩) 1 1) 1 (mI [x.d,x.n])::boxE b1 #[jI x.d,jI x.n] 119::rS9 119 2 G e quC::l)) (fun j e=>[(0,G),(1,.agg #[jI x.d,jI x.n]),(3,pI b1),(4,.slice none 0 0),(5,jI (j:Int))]) (fun j e=>j<e.length∧e.length=es.length+1∧e.Perm (es++[x])) (fun j e=>j) es.length (es++[x]) ⟨AI,AI,.refl _⟩ (bE [4,3,1,0] _ (sk 5 (by simp;rfl) (aA _)) A) (.refl _) ?_
 intro j e a2
 obtain⟨hj,a9,U⟩:=a2
 refine aG (aG (cN 1 A ?_))
 refine fJ A A A A A A (fun h5=>?_) (fun h5=>?_)
 refine dL (aR A (eC (bS (aG (cN 1 A (aN A (nK A A A) ?_))))))
 refine aN A (gD A A A AH) ?_
 refine bG 1 A (aG (aG ?_))
 refine bL 11 [[],[],[0,1],[2],[3],[],[],[5,6],[7],[8],[4,9]] [19,20,21,22,23,24,25,26,27,28,29] [G,jI (((j:Int)-1) / 2),elP G ((((j:Int)-1) / 2).toNat*2),elP G ((((j:Int)-1) / 2).toNat*2+0),jI ((e.getD ((((j:Int)-1) / 2).toNat) qu0).d),G,jI (j:Int),elP G ((j:Int).toNat*2),elP G ((j:Int).toNat*2+0),jI ((e.getD j qu0).d),.bool (decide ((e.getD ((((j:Int)-1) / 2).toNat) qu0).d≤(e.getD j qu0).d))] F A ?_ ?_
 exact⟨aJ,aJ,aJ,fL A (bR (k0:=0) A A A (aB 2 A) O) A,fL A (aL (u:=jI ((e.getD ((((j:Int)-1) / 2).toNat) qu0).d)) A A A (aB 2 A) ((dC quC 2 (fun _=>A) e qu0 (show(((j:Int)-1) / 2).toNat<_ by omega) V).trans A)) A,aJ,aJ,aJ,fL A (bR (k0:=0) A A A (aB 2 A) O) A,fL A (aL (u:=jI ((e.getD j qu0).d)) A A A (aB 2 A) ((dC quC 2 (fun _=>A) e qu0 (show j<_ by omega) V).trans A)) A,aJ,trivial⟩
 simp only[drop_succ_cons,drop_zero]
 refine dL ?_
 refine fO A (fun h6=>?_) (fun h6=>?_)
 have a3:(e.getD ((((j:Int)-1) / 2).toNat) qu0).d≤(e.getD j qu0).d:=of_decide_eq_true h6
 refine bW (dB ?_)
 refine hZ A (dB ?_)
 refine aO (bB (cF 2 A ?_))
 exact cW (mT (p':=rS9 119 2 G e quC) A A (pR 2 A) ⟨e,A,U⟩)
 have a3:¬((e.getD ((((j:Int)-1) / 2).toNat) qu0).d≤(e.getD j qu0).d):=of_decide_eq_false h6
 refine eC (aG ?_)
 refine jF 3 [1,0,2] A A V ?_
 refine gZ (l:=(rowE 119 2 (.slice (some ⟨g2,0,none⟩) 1 1) 1 (mI [x.d,x.n])::boxE b1 #[jI x.d,jI x.n] 119::l)) A 14 [0,1,2,3,4,5,6,7,8,9,10,11,12,13] (List.take 14 _) (List.drop 14 _) [[],[],[],[],[],[],[4,5],[6],[],[],[8,9],[10],[0,1],[7,12]] [some 30,some 31,some 32,some 33,some 34,some 35,some 36,some 37,some 38,some 39,some 40,some 41,some 42,none] (fun i_ aa M K=>match i_ with|0=>M=G∧K=[]|1=>M=jI (((j:Int)-1) / 2)∧K=[]|2=>M=G∧K=[]|3=>M=jI (j:Int)∧K=[]|4=>M=G∧K=[]|5=>M=jI (j:Int)∧K=[]|6=>M=elP G ((j:Int).toNat*2)∧K=[]|7=>M=.agg #[jI ((e.getD j qu0).d),jI ((e.getD j qu0).n)]∧K=[]|8=>M=G∧K=[]|9=>M=jI (((j:Int)-1) / 2)∧K=[]|10=>M=elP G ((((j:Int)-1) / 2).toNat*2)∧K=[]|11=>M=.agg #[jI ((e.getD ((((j:Int)-1) / 2).toNat) qu0).d),jI ((e.getD ((((j:Int)-1) / 2).toNat) qu0).n)]∧K=[]|12=>M=elP G ((((j:Int)-1) / 2).toNat*2)∧K=[]|13=>K=[rowE 119 2 G ((e.set ((((j:Int)-1) / 2).toNat) (e.getD j qu0)).length) ((e.set ((((j:Int)-1) / 2).toNat) (e.getD j qu0)).flatMap quC)]|_=>True) [[],[],[],[],[],[],[4,5,16],[6,16],[],[],[8,9,16],[10,16],[0,1,16],[7,12]] [none,none,none,none,none,none,none,none,none,none,none,none,none,some 16] [[rS9 119 2 G e quC]] [0,1,2,3,4,5,6,7,8,9,10,11,12,13] 16 (take_append_drop 14 _).symm F F F A A ?_ ?_
 refine⟨?_,?_,?_,?_,?_,?_,?_,?_,?_,?_,?_,?_,?_,?_,trivial⟩
 intro vf J B D
 refine cD [] [] A (aZ (aD [0] A) ?_)
 exact aK (aU A)
 intro vf J B D
 refine cD [] [] A (aZ (aD [6] A) ?_)
 exact aK (aU A)
 intro vf J B D
 refine cD [] [] A (aZ (aD [0] A) ?_)
 exact aK (aU A)
 intro vf J B D
 refine cD [] [] A (aZ (aD [5] A) ?_)
 exact aK (aU A)
 intro vf J B D
 refine cD [] [] A (aZ (aD [0] A) ?_)
 exact aK (aU A)
 intro vf J B D
 refine cD [] [] A (aZ (aD [5] A) ?_)
 exact aK (aU A)
 intro vf J B D
 have e4:=D 4 V
 have e5:=D 5 V
 refine cD [4,5,16] [4,5] A ?_
 have E:J 16=[rS9 119 2 G e quC]:=B 0 (show 0<1 by omega)
 exact bQ (aX 34 e4.1 (aX 35 e5.1 (aA _))) (by simp only[E,e4.2,e5.2,fS]<;>rfl) (aK (cV 2 A A A A (aB 0 A)))
 intro vf J B D
 have e6:=D 6 V
 refine cD [6,16] [6] A ?_
 have E:J 16=[rS9 119 2 G e quC]:=B 0 (show 0<1 by omega)
 exact bQ (aX 36 e6.1 (aA _)) (by simp only[E,e6.2,fS]<;>rfl) (aK (cO (us:=[jI ((e.getD j qu0).d),jI ((e.getD j qu0).n)]) A A A A (aB 0 A) O A (dQ quC 2 (fun _=>A) e qu0 (show j<_ by omega) A)))
 intro vf J B D
 refine cD [] [] A (aZ (aD [0] A) ?_)
 exact aK (aU A)
 intro vf J B D
 refine cD [] [] A (aZ (aD [6] A) ?_)
 exact aK (aU A)
 intro vf J B D
 have e8:=D 8 V
 have e9:=D 9 V
 refine cD [8,9,16] [8,9] A ?_
 have E:J 16=[rS9 119 2 G e quC]:=B 0 (show 0<1 by omega)
 exact bQ (aX 38 e8.1 (aX 39 e9.1 (aA _))) (by simp only[E,e8.2,e9.2,fS]<;>rfl) (aK (cV 2 A A A A (aB 0 A)))
 intro vf J B D
 have Y:=D 10 V
 refine cD [10,16] [10] A ?_
 have E:J 16=[rS9 119 2 G e quC]:=B 0 (show 0<1 by omega)
 exact bQ (aX 40 Y.1 (aA _)) (by simp only[E,Y.2,fS]<;>rfl) (aK (cO (us:=[jI ((e.getD ((((j:Int)-1) / 2).toNat) qu0).d),jI ((e.getD ((((j:Int)-1) / 2).toNat) qu0).n)]) A A A A (aB 0 A) O A (dQ quC 2 (fun _=>A) e qu0 (show(((j:Int)-1) / 2).toNat<_ by omega) A)))
 intro vf J B D
 have e0:=D 0 V
 have e1:=D 1 V
 refine cD [0,1,16] [0,1] A ?_
 have E:J 16=[rS9 119 2 G e quC]:=B 0 (show 0<1 by omega)
 exact bQ (aX 30 e0.1 (aX 31 e1.1 (aA _))) (by simp only[E,e0.2,e1.2,fS]<;>rfl) (aK (cV 2 A A A A (aB 0 A)))
 intro vf J B D
 have e7:=D 7 V
 have Z:=D 12 V
 refine Or.inl ⟨A,?_⟩
 show RunM _ _ _ (J 16) (([7,12]:List Nat).flatMap J++_) (envOf3 _ vf [7,12]++_) _ _
 have E:J 16=[rS9 119 2 G e quC]:=B 0 (show 0<1 by omega)
 rw[E]
 exact eJ (aX 37 e7.1 (aX 42 Z.1 (aA _))) (by simp only[e7.2,Z.2,fS]<;>rfl) (jD (mB (us:=[jI ((e.getD j qu0).d),jI ((e.getD j qu0).n)]) (n':=(e.set ((((j:Int)-1) / 2).toNat) (e.getD j qu0)).length) (xs':=((e.set ((((j:Int)-1) / 2).toNat) (e.getD j qu0)).flatMap quC)) 0 A A A A A (aC A (aC A bH)) A AA AG List.length_set.symm (jB quC 2 (fun _=>A) _ (e.getD j qu0) AA)) (fun M K h=>by show K=[rowE 119 2 G ((e.set ((((j:Int)-1) / 2).toNat) (e.getD j qu0)).length) ((e.set ((((j:Int)-1) / 2).toNat) (e.getD j qu0)).flatMap quC)];exact h))
 intro vf J B D
 have e2:=D 2 V
 have e3:=D 3 V
 have a4:=D 11 V
 have a5:(J 13)=[rowE 119 2 G ((e.set ((((j:Int)-1) / 2).toNat) (e.getD j qu0)).length) ((e.set ((((j:Int)-1) / 2).toNat) (e.getD j qu0)).flatMap quC)]:=D 13 V
 have a0:=a5
 have q0:=D 0 V
 have q1:=D 1 V
 have q2:=D 2 V
 have q3:=D 3 V
 have q4:=D 4 V
 have q5:=D 5 V
 have q6:=D 6 V
 have q7:=D 7 V
 have q8:=D 8 V
 have q9:=D 9 V
 have a6:=D 10 V
 have a7:=D 11 V
 have a8:=D 12 V
 refine cL (bE [29,15,6,5,4,3,1,0] _ (aX 32 e2.1 (aX 33 e3.1 (aX 41 a4.1 (aA _)))) A) (by simp only[a0,q0.2,q1.2,q2.2,q3.2,q4.2,q5.2,q6.2,q7.2,q8.2,q9.2,a6.2,a7.2,a8.2,fS]<;>rfl) ?_
 simp only[drop_succ_cons,drop_zero]
 refine aN A (cV 2 A A A A (aB 0 A) O AA) ?_
 refine jO (i:=0) (us:=[jI ((e.getD ((((j:Int)-1) / 2).toNat) qu0).d),jI ((e.getD ((((j:Int)-1) / 2).toNat) qu0).n)]) (n':=((e.set ((((j:Int)-1) / 2).toNat) (e.getD j qu0)).set j (e.getD ((((j:Int)-1) / 2).toNat) qu0)).length) (xs':=(((e.set ((((j:Int)-1) / 2).toNat) (e.getD j qu0)).set j (e.getD ((((j:Int)-1) / 2).toNat) qu0)).flatMap quC)) (l':=(rowE 119 2 G (((e.set ((((j:Int)-1) / 2).toNat) (e.getD j qu0)).set j (e.getD ((((j:Int)-1) / 2).toNat) qu0)).length) (((e.set ((((j:Int)-1) / 2).toNat) (e.getD j qu0)).set j (e.getD ((((j:Int)-1) / 2).toNat) qu0)).flatMap quC)::rowE 119 2 (.slice (some ⟨g2,0,none⟩) 1 1) 1 (mI [x.d,x.n])::boxE b1 #[jI x.d,jI x.n] 119::l)) A A A A A A (aC A (aC A bH)) A AA AG List.length_set.symm (jB quC 2 (fun _=>A) _ (e.getD ((((j:Int)-1) / 2).toNat) qu0) AA) A ?_
 refine dL (bP (eS 2 A (cG ?_)))
 refine bN 3 [0,2,1] A A V ?_
 exact bO ((j-1) / 2) ((e.set ((((j:Int)-1) / 2).toNat) (e.getD j qu0)).set j (e.getD ((((j:Int)-1) / 2).toNat) qu0)) ⟨by simp only[length_set];omega,by simp only[length_set];omega,(oE qu0 e _ _ O O).trans U⟩ O (bE [4,3,1,0] _ (sk 5 (by rw[show(((j-1) / 2:Nat):Int)=((j:Int)-1) / 2 by omega];rfl) (aA _)) A) (.refl _)
 refine dL (aV A ?_)
 refine bW (fM ?_)
 refine aO (bB (cF 2 A ?_))
 exact cW (mT (p':=rS9 119 2 G e quC) A A (pR 2 A) ⟨e,A,U⟩)
theorem yC (es:List Qu) (v:Value) (w0:World) (l:List HP) (w:World) (aa:Mem w0 (rS9 119 2 v es quC::l) w) (hl:es.length≤90000000001) (a6:0<es.length) :
   Calls Tryz.prog 104 #[v] w (fun e_ w_=>∃K J,e_=.returned K∧(fun K J=>∃(q:Qu) (v2:Value) (a7:List Qu),K=.tuple #[v2,.agg #[.int .i64 q.d,.int .i64 q.n]]∧J=rS9 119 2 v2 (a7) quC∧(q::a7).Perm es) K J∧Mem w0 (J::l) w_):=by
 refine gE (N:=77) (args:=[v]) Tryz.func104 A A aa (aG (cN 1 A ?_))
 refine cU A (bY (z:=.agg #[jI 0,jI 0]) A A) ?_
 intro Z
 refine dL (aG (cN 1 A (aN A (cV 2 A A A A (aB 1 A)) ?_)))
 refine aN A (cO (us:=[jI ((es.getD 0 qu0).d),jI ((es.getD 0 qu0).n)]) A A A A (aB 1 A) O A (dQ quC 2 (fun _=>A) es qu0 (show 0<_ by omega) A)) (cU A (bY (z:=.agg #[jI 0,jI 0]) A A) ?_)
 intro b2
 refine cA (cs':=#[jI ((es.getD 0 qu0).d),jI ((es.getD 0 qu0).n)]) (i:=0) (off:=0) (us:=[jI ((es.getD 0 qu0).d),jI ((es.getD 0 qu0).n)]) A A A A A A A (aC A (aC A bH)) A A A (dL (aG (cN 1 A (aN A (eV A A A (aB 2 A)) (aN A (nK A A A) (bG 1 A (dW ?_)))))))
 refine aS 3 A (aN A (cV 2 A A A A (aB 2 A)) ?_)
 refine aN A (cO (us:=[jI ((es.getD (((es.length:Int)-1).toNat) qu0).d),jI ((es.getD (((es.length:Int)-1).toNat) qu0).n)]) A A A A (aB 2 A) O A (dQ quC 2 (fun _=>A) es qu0 (show((es.length:Int)-1).toNat<_ by omega) A)) (aN A (cV 2 A A A A (aB 2 A)) ?_)
 refine jO (i:=2) (us:=[jI ((es.getD (((es.length:Int)-1).toNat) qu0).d),jI ((es.getD (((es.length:Int)-1).toNat) qu0).n)]) (n':=(es.set 0 (es.getD (((es.length:Int)-1).toNat) qu0)).length) (xs':=((es.set 0 (es.getD (((es.length:Int)-1).toNat) qu0)).flatMap quC)) (l':=(boxE b2 #[jI ((es.getD 0 qu0).d),jI ((es.getD 0 qu0).n)] 119::boxE Z #[jI 0,jI 0] 119::rowE 119 2 v ((es.set 0 (es.getD (((es.length:Int)-1).toNat) qu0)).length) ((es.set 0 (es.getD (((es.length:Int)-1).toNat) qu0)).flatMap quC)::l)) A A A A A A (aC A (aC A bH)) A AA AG List.length_set.symm (jB quC 2 (fun _=>A) _ (es.getD (((es.length:Int)-1).toNat) qu0) AA) A (dL (aG (cN 2 A (aN A (rP A Tryz.underlying116 A A A (aB 2 A) O AO) ?_))))
 refine kQ 3 [1,0,2] A A V ?_
 refine jZ (rowE 119 2 (slV v 0 ((es.length:Int)-1).toNat 2) (((es.set 0 (es.getD (((es.length:Int)-1).toNat) qu0)).take (((es.length:Int)-1).toNat)).length) (((es.set 0 (es.getD (((es.length:Int)-1).toNat) qu0)).take (((es.length:Int)-1).toNat)).flatMap quC)::boxE b2 #[jI ((es.getD 0 qu0).d),jI ((es.getD 0 qu0).n)] 119::boxE Z #[jI 0,jI 0] 119::l) (fun w hm=>hm.cutFlat quC (fun _=>A) AO) ?_
 refine bG 1 A (aG (cF 1 A (bS ?_)))
 refine nX (α:=Nat) (β:=List Qu) (fun i e=>(rS9 119 2 (slV v 0 ((es.length:Int)-1).toNat 2) e quC::boxE b2 #[jI ((es.getD 0 qu0).d),jI ((es.getD 0 qu0).n)] 119::boxE Z #[jI 0,jI 0] 119::l)) (fun i e=>[(0,slV v 0 ((es.length:Int)-1).toNat 2),(2,.slice none 0 0),(3,pI Z),(4,pI b2),(5,jI ((es.length:Int)-1)),(6,jI (i:Int))]) (fun i e=>(i=0∨i<e.length)∧e.length=es.length-1∧((es.getD 0 qu0)::e).Perm es) (fun i e=>es.length-i) 0 ((es.set 0 (es.getD (((es.length:Int)-1).toNat) qu0)).take (((es.length:Int)-1).toNat)) ⟨.inl A,by simp only[length_take,length_set];omega,Fk a6 O⟩ (bV A) (.refl _) ?_
 intro i e ab
 obtain⟨hi,ag,Y⟩:=ab
 refine bS (aG (cN 1 A (aN A (eZ A A A AE) (aN A (eY A A A) (bG 1 A (aG (aG (cN 2 A ?_))))))))
 refine eK A A A A A A (fun h4=>?_) (fun h4=>?_)
 refine dL (aR A ?_)
 refine bW (dB ?_)
 refine hZ A (dB ?_)
 refine aO (bB (aG (kR _ [28,7,6,5,4,3,0] A ?_)))
 refine bL 3 [[],[],[0]] [75,76,2] [slV v 0 ((es.length:Int)-1).toNat 2,.agg #[jI ((es.getD 0 qu0).d),jI ((es.getD 0 qu0).n)],slV v 0 ((es.length:Int)-1).toNat 2] F A ?_ ?_
 exact⟨aJ,aJ,aJ,trivial⟩
 simp only[drop_succ_cons,drop_zero]
 refine cA (cs':=#[jI ((es.getD 0 qu0).d),jI ((es.getD 0 qu0).n)]) (i:=2) (off:=0) (us:=[jI ((es.getD 0 qu0).d),jI ((es.getD 0 qu0).n)]) A A A A A A A (aC A (aC A bH)) A A A (dL ?_)
 exact cW (fU (rs:=[.tmp 2,.cell 3 119]) (vs:=[slV v 0 ((es.length:Int)-1).toNat 2,.agg #[jI ((es.getD 0 qu0).d),jI ((es.getD 0 qu0).n)]]) A ⟨A,⟨Z,0,[jI ((es.getD 0 qu0).d),jI ((es.getD 0 qu0).n)],A,A,F,F,aM 2 A 0 A⟩,trivial⟩ A (fun w hm=>⟨_,rS9 119 2 (slV v 0 ((es.length:Int)-1).toNat 2) e quC,A,⟨(es.getD 0 qu0),_,e,A,A,Y⟩,hm.sub (.cons_cons _ (pR 2 A))⟩))
 refine dL (aV A (eC (aG (aG ?_))))
 rcases eq_false_or_eq_true (decide (((2*(i:Int))+1)+1<(es.length:Int)-1)) with a5|a5
 have a8:((2*(i:Int))+1)+1<(es.length:Int)-1:=of_decide_eq_true a5
 refine bL 18 [[],[0],[],[1,2],[3],[4],[4],[4,6],[4,5,7],[4,8],[4,9],[4],[4],[4,11,12],[4,13],[4,14],[4,10,15],[4,16]] [29,30,31,32,33,34,35,36,37,38,39,40,41,42,43,44,45,46] [jI ((2*(i:Int))+1),jI (((2*(i:Int))+1)+1),jI ((es.length:Int)-1),.bool true,.bool true,slV v 0 ((es.length:Int)-1).toNat 2,jI ((2*(i:Int))+1),jI (((2*(i:Int))+1)+1),elP (slV v 0 ((es.length:Int)-1).toNat 2) ((((2*(i:Int))+1)+1).toNat*2),elP (slV v 0 ((es.length:Int)-1).toNat 2) ((((2*(i:Int))+1)+1).toNat*2+0),jI ((e.getD ((((2*(i:Int))+1)+1).toNat) qu0).d),slV v 0 ((es.length:Int)-1).toNat 2,jI ((2*(i:Int))+1),elP (slV v 0 ((es.length:Int)-1).toNat 2) (((2*(i:Int))+1).toNat*2),elP (slV v 0 ((es.length:Int)-1).toNat 2) (((2*(i:Int))+1).toNat*2+0),jI ((e.getD (((2*(i:Int))+1).toNat) qu0).d),.bool (decide ((e.getD ((((2*(i:Int))+1)+1).toNat) qu0).d<(e.getD (((2*(i:Int))+1).toNat) qu0).d)),.bool (decide ((e.getD ((((2*(i:Int))+1)+1).toNat) qu0).d<(e.getD (((2*(i:Int))+1).toNat) qu0).d))] F A ?_ ?_
 exact⟨aJ,aJ,aJ,aJ,aJ,aJ,aJ,aJ,aJ,fL A (bR (k0:=0) A A A (aB 0 A) O) A,fL A (aL (u:=jI ((e.getD ((((2*(i:Int))+1)+1).toNat) qu0).d)) A A A (aB 0 A) ((dC quC 2 (fun _=>A) e qu0 (show(((2*(i:Int))+1)+1).toNat<_ by omega) V).trans A)) A,aJ,aJ,aJ,fL A (bR (k0:=0) A A A (aB 0 A) O) A,fL A (aL (u:=jI ((e.getD (((2*(i:Int))+1).toNat) qu0).d)) A A A (aB 0 A) ((dC quC 2 (fun _=>A) e qu0 (show((2*(i:Int))+1).toNat<_ by omega) V).trans A)) A,aJ,aJ,trivial⟩
 simp only[drop_succ_cons,drop_zero]
 refine dL ?_
 refine fO A (fun h6=>?_) (fun h6=>?_)
 have ac:(e.getD ((((2*(i:Int))+1)+1).toNat) qu0).d<(e.getD (((2*(i:Int))+1).toNat) qu0).d:=of_decide_eq_true h6
 refine cN 1 A (aN A (eY A A A) (bG 1 A (aG (aG ?_))))
 refine bL 11 [[],[],[0,1],[2],[3],[],[],[5,6],[7],[8],[4,9]] [49,50,51,52,53,54,55,56,57,58,59] [slV v 0 ((es.length:Int)-1).toNat 2,jI (i:Int),elP (slV v 0 ((es.length:Int)-1).toNat 2) ((i:Int).toNat*2),elP (slV v 0 ((es.length:Int)-1).toNat 2) ((i:Int).toNat*2+0),jI ((e.getD i qu0).d),slV v 0 ((es.length:Int)-1).toNat 2,jI (((2*(i:Int))+1)+1),elP (slV v 0 ((es.length:Int)-1).toNat 2) ((((2*(i:Int))+1)+1).toNat*2),elP (slV v 0 ((es.length:Int)-1).toNat 2) ((((2*(i:Int))+1)+1).toNat*2+0),jI ((e.getD ((((2*(i:Int))+1)+1).toNat) qu0).d),.bool (decide ((e.getD i qu0).d≤(e.getD ((((2*(i:Int))+1)+1).toNat) qu0).d))] F A ?_ ?_
 exact⟨aJ,aJ,aJ,fL A (bR (k0:=0) A A A (aB 0 A) O) A,fL A (aL (u:=jI ((e.getD i qu0).d)) A A A (aB 0 A) ((dC quC 2 (fun _=>A) e qu0 (show i<_ by omega) V).trans A)) A,aJ,aJ,aJ,fL A (bR (k0:=0) A A A (aB 0 A) O) A,fL A (aL (u:=jI ((e.getD ((((2*(i:Int))+1)+1).toNat) qu0).d)) A A A (aB 0 A) ((dC quC 2 (fun _=>A) e qu0 (show(((2*(i:Int))+1)+1).toNat<_ by omega) V).trans A)) A,aJ,trivial⟩
 simp only[drop_succ_cons,drop_zero]
 refine dL ?_
 refine fO A (fun h7=>?_) (fun h7=>?_)
 have ad:(e.getD i qu0).d≤(e.getD ((((2*(i:Int))+1)+1).toNat) qu0).d:=of_decide_eq_true h7
 refine bW (dB ?_)
 refine hZ A (dB ?_)
 refine aO (bB (aG (kR _ [59,46,28,7,6,5,4,3,0] A ?_)))
 refine bL 3 [[],[],[0]] [75,76,2] [slV v 0 ((es.length:Int)-1).toNat 2,.agg #[jI ((es.getD 0 qu0).d),jI ((es.getD 0 qu0).n)],slV v 0 ((es.length:Int)-1).toNat 2] F A ?_ ?_
 exact⟨aJ,aJ,aJ,trivial⟩
 simp only[drop_succ_cons,drop_zero]
 refine cA (cs':=#[jI ((es.getD 0 qu0).d),jI ((es.getD 0 qu0).n)]) (i:=2) (off:=0) (us:=[jI ((es.getD 0 qu0).d),jI ((es.getD 0 qu0).n)]) A A A A A A A (aC A (aC A bH)) A A A (dL ?_)
 exact cW (fU (rs:=[.tmp 2,.cell 3 119]) (vs:=[slV v 0 ((es.length:Int)-1).toNat 2,.agg #[jI ((es.getD 0 qu0).d),jI ((es.getD 0 qu0).n)]]) A ⟨A,⟨Z,0,[jI ((es.getD 0 qu0).d),jI ((es.getD 0 qu0).n)],A,A,F,F,aM 2 A 0 A⟩,trivial⟩ A (fun w hm=>⟨_,rS9 119 2 (slV v 0 ((es.length:Int)-1).toNat 2) e quC,A,⟨(es.getD 0 qu0),_,e,A,A,Y⟩,hm.sub (.cons_cons _ (pR 2 A))⟩))
 have ad:¬((e.getD i qu0).d≤(e.getD ((((2*(i:Int))+1)+1).toNat) qu0).d):=of_decide_eq_false h7
 refine eC (aG ?_)
 refine gZ (l:=(boxE b2 #[jI ((es.getD 0 qu0).d),jI ((es.getD 0 qu0).n)] 119::boxE Z #[jI 0,jI 0] 119::l)) A 14 [0,1,2,3,4,5,6,7,8,9,10,11,12,13] (List.take 14 _) (List.drop 14 _) [[],[],[],[],[],[],[4,5],[6],[],[],[8,9],[10],[0,1],[7,12]] [some 60,some 61,some 62,some 63,some 64,some 65,some 66,some 67,some 68,some 69,some 70,some 71,some 72,none] (fun i_ a9 K J=>match i_ with|0=>K=slV v 0 ((es.length:Int)-1).toNat 2∧J=[]|1=>K=jI (i:Int)∧J=[]|2=>K=slV v 0 ((es.length:Int)-1).toNat 2∧J=[]|3=>K=jI (((2*(i:Int))+1)+1)∧J=[]|4=>K=slV v 0 ((es.length:Int)-1).toNat 2∧J=[]|5=>K=jI (((2*(i:Int))+1)+1)∧J=[]|6=>K=elP (slV v 0 ((es.length:Int)-1).toNat 2) ((((2*(i:Int))+1)+1).toNat*2)∧J=[]|7=>K=.agg #[jI ((e.getD ((((2*(i:Int))+1)+1).toNat) qu0).d),jI ((e.getD ((((2*(i:Int))+1)+1).toNat) qu0).n)]∧J=[]|8=>K=slV v 0 ((es.length:Int)-1).toNat 2∧J=[]|9=>K=jI (i:Int)∧J=[]|10=>K=elP (slV v 0 ((es.length:Int)-1).toNat 2) ((i:Int).toNat*2)∧J=[]|11=>K=.agg #[jI ((e.getD i qu0).d),jI ((e.getD i qu0).n)]∧J=[]|12=>K=elP (slV v 0 ((es.length:Int)-1).toNat 2) ((i:Int).toNat*2)∧J=[]|13=>J=[rowE 119 2 (slV v 0 ((es.length:Int)-1).toNat 2) ((e.set i (e.getD ((((2*(i:Int))+1)+1).toNat) qu0)).length) ((e.set i (e.getD ((((2*(i:Int))+1)+1).toNat) qu0)).flatMap quC)]|_=>True) [[],[],[],[],[],[],[4,5,16],[6,16],[],[],[8,9,16],[10,16],[0,1,16],[7,12]] [none,none,none,none,none,none,none,none,none,none,none,none,none,some 16] [[rS9 119 2 (slV v 0 ((es.length:Int)-1).toNat 2) e quC]] [0,1,2,3,4,5,6,7,8,9,10,11,12,13] 16 (take_append_drop 14 _).symm F F F A A ?_ ?_
 refine⟨?_,?_,?_,?_,?_,?_,?_,?_,?_,?_,?_,?_,?_,?_,trivial⟩
 intro vf G B D
 refine cD [] [] A (aZ (aD [0] A) ?_)
 exact aK (aU A)
 intro vf G B D
 refine cD [] [] A (aZ (aD [6] A) ?_)
 exact aK (aU A)
 intro vf G B D
 refine cD [] [] A (aZ (aD [0] A) ?_)
 exact aK (aU A)
 intro vf G B D
 refine cD [] [] A (aZ (aD [7] A) ?_)
 exact aK (aU A)
 intro vf G B D
 refine cD [] [] A (aZ (aD [0] A) ?_)
 exact aK (aU A)
 intro vf G B D
 refine cD [] [] A (aZ (aD [7] A) ?_)
 exact aK (aU A)
 intro vf G B D
 have e4:=D 4 V
 have e5:=D 5 V
 refine cD [4,5,16] [4,5] A ?_
 have E:G 16=[rS9 119 2 (slV v 0 ((es.length:Int)-1).toNat 2) e quC]:=B 0 (show 0<1 by omega)
 exact bQ (aX 64 e4.1 (aX 65 e5.1 (aA _))) (by simp only[E,e4.2,e5.2,fS]<;>rfl) (aK (cV 2 A A A A (aB 0 A)))
 intro vf G B D
 have e6:=D 6 V
 refine cD [6,16] [6] A ?_
 have E:G 16=[rS9 119 2 (slV v 0 ((es.length:Int)-1).toNat 2) e quC]:=B 0 (show 0<1 by omega)
 exact bQ (aX 66 e6.1 (aA _)) (by simp only[E,e6.2,fS]<;>rfl) (aK (cO (us:=[jI ((e.getD ((((2*(i:Int))+1)+1).toNat) qu0).d),jI ((e.getD ((((2*(i:Int))+1)+1).toNat) qu0).n)]) A A A A (aB 0 A) O A (dQ quC 2 (fun _=>A) e qu0 (show(((2*(i:Int))+1)+1).toNat<_ by omega) A)))
 intro vf G B D
 refine cD [] [] A (aZ (aD [0] A) ?_)
 exact aK (aU A)
 intro vf G B D
 refine cD [] [] A (aZ (aD [6] A) ?_)
 exact aK (aU A)
 intro vf G B D
 have e8:=D 8 V
 have e9:=D 9 V
 refine cD [8,9,16] [8,9] A ?_
 have E:G 16=[rS9 119 2 (slV v 0 ((es.length:Int)-1).toNat 2) e quC]:=B 0 (show 0<1 by omega)
 exact bQ (aX 68 e8.1 (aX 69 e9.1 (aA _))) (by simp only[E,e8.2,e9.2,fS]<;>rfl) (aK (cV 2 A A A A (aB 0 A)))
 intro vf G B D
 have M:=D 10 V
 refine cD [10,16] [10] A ?_
 have E:G 16=[rS9 119 2 (slV v 0 ((es.length:Int)-1).toNat 2) e quC]:=B 0 (show 0<1 by omega)
 exact bQ (aX 70 M.1 (aA _)) (by simp only[E,M.2,fS]<;>rfl) (aK (cO (us:=[jI ((e.getD i qu0).d),jI ((e.getD i qu0).n)]) A A A A (aB 0 A) O A (dQ quC 2 (fun _=>A) e qu0 (show i<_ by omega) A)))
 intro vf G B D
 have e0:=D 0 V
 have e1:=D 1 V
 refine cD [0,1,16] [0,1] A ?_
 have E:G 16=[rS9 119 2 (slV v 0 ((es.length:Int)-1).toNat 2) e quC]:=B 0 (show 0<1 by omega)
 exact bQ (aX 60 e0.1 (aX 61 e1.1 (aA _))) (by simp only[E,e0.2,e1.2,fS]<;>rfl) (aK (cV 2 A A A A (aB 0 A)))
 intro vf G B D
 have e7:=D 7 V
 have U:=D 12 V
 refine Or.inl ⟨A,?_⟩
 show RunM _ _ _ (G 16) (([7,12]:List Nat).flatMap G++_) (envOf3 _ vf [7,12]++_) _ _
 have E:G 16=[rS9 119 2 (slV v 0 ((es.length:Int)-1).toNat 2) e quC]:=B 0 (show 0<1 by omega)
 rw[E]
 exact eJ (aX 67 e7.1 (aX 72 U.1 (aA _))) (by simp only[e7.2,U.2,fS]<;>rfl) (jD (mB (us:=[jI ((e.getD ((((2*(i:Int))+1)+1).toNat) qu0).d),jI ((e.getD ((((2*(i:Int))+1)+1).toNat) qu0).n)]) (n':=(e.set i (e.getD ((((2*(i:Int))+1)+1).toNat) qu0)).length) (xs':=((e.set i (e.getD ((((2*(i:Int))+1)+1).toNat) qu0)).flatMap quC)) 0 A A A A A (aC A (aC A bH)) A AA AG List.length_set.symm (jB quC 2 (fun _=>A) _ (e.getD ((((2*(i:Int))+1)+1).toNat) qu0) AA)) (fun K J h=>by show J=[rowE 119 2 (slV v 0 ((es.length:Int)-1).toNat 2) ((e.set i (e.getD ((((2*(i:Int))+1)+1).toNat) qu0)).length) ((e.set i (e.getD ((((2*(i:Int))+1)+1).toNat) qu0)).flatMap quC)];exact h))
 intro vf G B D
 have e2:=D 2 V
 have e3:=D 3 V
 have a0:=D 11 V
 have a1:(G 13)=[rowE 119 2 (slV v 0 ((es.length:Int)-1).toNat 2) ((e.set i (e.getD ((((2*(i:Int))+1)+1).toNat) qu0)).length) ((e.set i (e.getD ((((2*(i:Int))+1)+1).toNat) qu0)).flatMap quC)]:=D 13 V
 have X:=a1
 have q0:=D 0 V
 have q1:=D 1 V
 have q2:=D 2 V
 have q3:=D 3 V
 have q4:=D 4 V
 have q5:=D 5 V
 have q6:=D 6 V
 have q7:=D 7 V
 have q8:=D 8 V
 have q9:=D 9 V
 have a2:=D 10 V
 have a3:=D 11 V
 have a4:=D 12 V
 refine cL (bE [59,46,28,7,6,5,4,3,2,0] _ (aX 62 e2.1 (aX 63 e3.1 (aX 71 a0.1 (aA _)))) A) (by simp only[X,q0.2,q1.2,q2.2,q3.2,q4.2,q5.2,q6.2,q7.2,q8.2,q9.2,a2.2,a3.2,a4.2,fS]<;>rfl) ?_
 simp only[drop_succ_cons,drop_zero]
 refine aN A (cV 2 A A A A (aB 0 A) O AA) ?_
 refine jO (i:=0) (us:=[jI ((e.getD i qu0).d),jI ((e.getD i qu0).n)]) (n':=((e.set i (e.getD ((((2*(i:Int))+1)+1).toNat) qu0)).set ((((2*(i:Int))+1)+1).toNat) (e.getD i qu0)).length) (xs':=(((e.set i (e.getD ((((2*(i:Int))+1)+1).toNat) qu0)).set ((((2*(i:Int))+1)+1).toNat) (e.getD i qu0)).flatMap quC)) (l':=(rowE 119 2 (slV v 0 ((es.length:Int)-1).toNat 2) (((e.set i (e.getD ((((2*(i:Int))+1)+1).toNat) qu0)).set ((((2*(i:Int))+1)+1).toNat) (e.getD i qu0)).length) (((e.set i (e.getD ((((2*(i:Int))+1)+1).toNat) qu0)).set ((((2*(i:Int))+1)+1).toNat) (e.getD i qu0)).flatMap quC)::boxE b2 #[jI ((es.getD 0 qu0).d),jI ((es.getD 0 qu0).n)] 119::boxE Z #[jI 0,jI 0] 119::l)) A A A A A A (aC A (aC A bH)) A AA AG List.length_set.symm (jB quC 2 (fun _=>A) _ (e.getD i qu0) AA) A ?_
 refine dL (bP (eS 2 A (cG ?_)))
 exact bO (((2*(i:Int))+1)+1).toNat ((e.set i (e.getD ((((2*(i:Int))+1)+1).toNat) qu0)).set ((((2*(i:Int))+1)+1).toNat) (e.getD i qu0)) ⟨.inr AO,by simp only[length_set];omega,((oE qu0 e _ _ O O).cons _).trans Y⟩ O (bE [5,4,3,2,0] _ (sk 6 (by rw[Int.toNat_of_nonneg O];rfl) (aA _)) A) (.refl _)
 have ac:¬((e.getD ((((2*(i:Int))+1)+1).toNat) qu0).d<(e.getD (((2*(i:Int))+1).toNat) qu0).d):=of_decide_eq_false h6
 refine eC (aG (aG ?_))
 refine bL 11 [[],[],[0,1],[2],[3],[],[],[5,6],[7],[8],[4,9]] [49,50,51,52,53,54,55,56,57,58,59] [slV v 0 ((es.length:Int)-1).toNat 2,jI (i:Int),elP (slV v 0 ((es.length:Int)-1).toNat 2) ((i:Int).toNat*2),elP (slV v 0 ((es.length:Int)-1).toNat 2) ((i:Int).toNat*2+0),jI ((e.getD i qu0).d),slV v 0 ((es.length:Int)-1).toNat 2,jI ((2*(i:Int))+1),elP (slV v 0 ((es.length:Int)-1).toNat 2) (((2*(i:Int))+1).toNat*2),elP (slV v 0 ((es.length:Int)-1).toNat 2) (((2*(i:Int))+1).toNat*2+0),jI ((e.getD (((2*(i:Int))+1).toNat) qu0).d),.bool (decide ((e.getD i qu0).d≤(e.getD (((2*(i:Int))+1).toNat) qu0).d))] F A ?_ ?_
 exact⟨aJ,aJ,aJ,fL A (bR (k0:=0) A A A (aB 0 A) O) A,fL A (aL (u:=jI ((e.getD i qu0).d)) A A A (aB 0 A) ((dC quC 2 (fun _=>A) e qu0 (show i<_ by omega) V).trans A)) A,aJ,aJ,aJ,fL A (bR (k0:=0) A A A (aB 0 A) O) A,fL A (aL (u:=jI ((e.getD (((2*(i:Int))+1).toNat) qu0).d)) A A A (aB 0 A) ((dC quC 2 (fun _=>A) e qu0 (show((2*(i:Int))+1).toNat<_ by omega) V).trans A)) A,aJ,trivial⟩
 simp only[drop_succ_cons,drop_zero]
 refine dL ?_
 refine fO A (fun h8=>?_) (fun h8=>?_)
 have ae:(e.getD i qu0).d≤(e.getD (((2*(i:Int))+1).toNat) qu0).d:=of_decide_eq_true h8
 refine bW (dB ?_)
 refine hZ A (dB ?_)
 refine aO (bB (aG (kR _ [59,46,28,7,6,5,4,3,0] A ?_)))
 refine bL 3 [[],[],[0]] [75,76,2] [slV v 0 ((es.length:Int)-1).toNat 2,.agg #[jI ((es.getD 0 qu0).d),jI ((es.getD 0 qu0).n)],slV v 0 ((es.length:Int)-1).toNat 2] F A ?_ ?_
 exact⟨aJ,aJ,aJ,trivial⟩
 simp only[drop_succ_cons,drop_zero]
 refine cA (cs':=#[jI ((es.getD 0 qu0).d),jI ((es.getD 0 qu0).n)]) (i:=2) (off:=0) (us:=[jI ((es.getD 0 qu0).d),jI ((es.getD 0 qu0).n)]) A A A A A A A (aC A (aC A bH)) A A A (dL ?_)
 exact cW (fU (rs:=[.tmp 2,.cell 3 119]) (vs:=[slV v 0 ((es.length:Int)-1).toNat 2,.agg #[jI ((es.getD 0 qu0).d),jI ((es.getD 0 qu0).n)]]) A ⟨A,⟨Z,0,[jI ((es.getD 0 qu0).d),jI ((es.getD 0 qu0).n)],A,A,F,F,aM 2 A 0 A⟩,trivial⟩ A (fun w hm=>⟨_,rS9 119 2 (slV v 0 ((es.length:Int)-1).toNat 2) e quC,A,⟨(es.getD 0 qu0),_,e,A,A,Y⟩,hm.sub (.cons_cons _ (pR 2 A))⟩))
 have ae:¬((e.getD i qu0).d≤(e.getD (((2*(i:Int))+1).toNat) qu0).d):=of_decide_eq_false h8
 refine eC (aG ?_)
 refine gZ (l:=(boxE b2 #[jI ((es.getD 0 qu0).d),jI ((es.getD 0 qu0).n)] 119::boxE Z #[jI 0,jI 0] 119::l)) A 14 [0,1,2,3,4,5,6,7,8,9,10,11,12,13] (List.take 14 _) (List.drop 14 _) [[],[],[],[],[],[],[4,5],[6],[],[],[8,9],[10],[0,1],[7,12]] [some 60,some 61,some 62,some 63,some 64,some 65,some 66,some 67,some 68,some 69,some 70,some 71,some 72,none] (fun i_ a9 K J=>match i_ with|0=>K=slV v 0 ((es.length:Int)-1).toNat 2∧J=[]|1=>K=jI (i:Int)∧J=[]|2=>K=slV v 0 ((es.length:Int)-1).toNat 2∧J=[]|3=>K=jI ((2*(i:Int))+1)∧J=[]|4=>K=slV v 0 ((es.length:Int)-1).toNat 2∧J=[]|5=>K=jI ((2*(i:Int))+1)∧J=[]|6=>K=elP (slV v 0 ((es.length:Int)-1).toNat 2) (((2*(i:Int))+1).toNat*2)∧J=[]|7=>K=.agg #[jI ((e.getD (((2*(i:Int))+1).toNat) qu0).d),jI ((e.getD (((2*(i:Int))+1).toNat) qu0).n)]∧J=[]|8=>K=slV v 0 ((es.length:Int)-1).toNat 2∧J=[]|9=>K=jI (i:Int)∧J=[]|10=>K=elP (slV v 0 ((es.length:Int)-1).toNat 2) ((i:Int).toNat*2)∧J=[]|11=>K=.agg #[jI ((e.getD i qu0).d),jI ((e.getD i qu0).n)]∧J=[]|12=>K=elP (slV v 0 ((es.length:Int)-1).toNat 2) ((i:Int).toNat*2)∧J=[]|13=>J=[rowE 119 2 (slV v 0 ((es.length:Int)-1).toNat 2) ((e.set i (e.getD (((2*(i:Int))+1).toNat) qu0)).length) ((e.set i (e.getD (((2*(i:Int))+1).toNat) qu0)).flatMap quC)]|_=>True) [[],[],[],[],[],[],[4,5,16],[6,16],[],[],[8,9,16],[10,16],[0,1,16],[7,12]] [none,none,none,none,none,none,none,none,none,none,none,none,none,some 16] [[rS9 119 2 (slV v 0 ((es.length:Int)-1).toNat 2) e quC]] [0,1,2,3,4,5,6,7,8,9,10,11,12,13] 16 (take_append_drop 14 _).symm F F F A A ?_ ?_
 refine⟨?_,?_,?_,?_,?_,?_,?_,?_,?_,?_,?_,?_,?_,?_,trivial⟩
 intro vf G B D
 refine cD [] [] A (aZ (aD [0] A) ?_)
 exact aK (aU A)
 intro vf G B D
 refine cD [] [] A (aZ (aD [6] A) ?_)
 exact aK (aU A)
 intro vf G B D
 refine cD [] [] A (aZ (aD [0] A) ?_)
 exact aK (aU A)
 intro vf G B D
 refine cD [] [] A (aZ (aD [7] A) ?_)
 exact aK (aU A)
 intro vf G B D
 refine cD [] [] A (aZ (aD [0] A) ?_)
 exact aK (aU A)
 intro vf G B D
 refine cD [] [] A (aZ (aD [7] A) ?_)
 exact aK (aU A)
 intro vf G B D
 have e4:=D 4 V
 have e5:=D 5 V
 refine cD [4,5,16] [4,5] A ?_
 have E:G 16=[rS9 119 2 (slV v 0 ((es.length:Int)-1).toNat 2) e quC]:=B 0 (show 0<1 by omega)
 exact bQ (aX 64 e4.1 (aX 65 e5.1 (aA _))) (by simp only[E,e4.2,e5.2,fS]<;>rfl) (aK (cV 2 A A A A (aB 0 A)))
 intro vf G B D
 have e6:=D 6 V
 refine cD [6,16] [6] A ?_
 have E:G 16=[rS9 119 2 (slV v 0 ((es.length:Int)-1).toNat 2) e quC]:=B 0 (show 0<1 by omega)
 exact bQ (aX 66 e6.1 (aA _)) (by simp only[E,e6.2,fS]<;>rfl) (aK (cO (us:=[jI ((e.getD (((2*(i:Int))+1).toNat) qu0).d),jI ((e.getD (((2*(i:Int))+1).toNat) qu0).n)]) A A A A (aB 0 A) O A (dQ quC 2 (fun _=>A) e qu0 (show((2*(i:Int))+1).toNat<_ by omega) A)))
 intro vf G B D
 refine cD [] [] A (aZ (aD [0] A) ?_)
 exact aK (aU A)
 intro vf G B D
 refine cD [] [] A (aZ (aD [6] A) ?_)
 exact aK (aU A)
 intro vf G B D
 have e8:=D 8 V
 have e9:=D 9 V
 refine cD [8,9,16] [8,9] A ?_
 have E:G 16=[rS9 119 2 (slV v 0 ((es.length:Int)-1).toNat 2) e quC]:=B 0 (show 0<1 by omega)
 exact bQ (aX 68 e8.1 (aX 69 e9.1 (aA _))) (by simp only[E,e8.2,e9.2,fS]<;>rfl) (aK (cV 2 A A A A (aB 0 A)))
 intro vf G B D
 have M:=D 10 V
 refine cD [10,16] [10] A ?_
 have E:G 16=[rS9 119 2 (slV v 0 ((es.length:Int)-1).toNat 2) e quC]:=B 0 (show 0<1 by omega)
 exact bQ (aX 70 M.1 (aA _)) (by simp only[E,M.2,fS]<;>rfl) (aK (cO (us:=[jI ((e.getD i qu0).d),jI ((e.getD i qu0).n)]) A A A A (aB 0 A) O A (dQ quC 2 (fun _=>A) e qu0 (show i<_ by omega) A)))
 intro vf G B D
 have e0:=D 0 V
 have e1:=D 1 V
 refine cD [0,1,16] [0,1] A ?_
 have E:G 16=[rS9 119 2 (slV v 0 ((es.length:Int)-1).toNat 2) e quC]:=B 0 (show 0<1 by omega)
 exact bQ (aX 60 e0.1 (aX 61 e1.1 (aA _))) (by simp only[E,e0.2,e1.2,fS]<;>rfl) (aK (cV 2 A A A A (aB 0 A)))
 intro vf G B D
 have e7:=D 7 V
 have U:=D 12 V
 refine Or.inl ⟨A,?_⟩
 show RunM _ _ _ (G 16) (([7,12]:List Nat).flatMap G++_) (envOf3 _ vf [7,12]++_) _ _
 have E:G 16=[rS9 119 2 (slV v 0 ((es.length:Int)-1).toNat 2) e quC]:=B 0 (show 0<1 by omega)
 rw[E]
 exact eJ (aX 67 e7.1 (aX 72 U.1 (aA _))) (by simp only[e7.2,U.2,fS]<;>rfl) (jD (mB (us:=[jI ((e.getD (((2*(i:Int))+1).toNat) qu0).d),jI ((e.getD (((2*(i:Int))+1).toNat) qu0).n)]) (n':=(e.set i (e.getD (((2*(i:Int))+1).toNat) qu0)).length) (xs':=((e.set i (e.getD (((2*(i:Int))+1).toNat) qu0)).flatMap quC)) 0 A A A A A (aC A (aC A bH)) A AA AG List.length_set.symm (jB quC 2 (fun _=>A) _ (e.getD (((2*(i:Int))+1).toNat) qu0) AA)) (fun K J h=>by show J=[rowE 119 2 (slV v 0 ((es.length:Int)-1).toNat 2) ((e.set i (e.getD (((2*(i:Int))+1).toNat) qu0)).length) ((e.set i (e.getD (((2*(i:Int))+1).toNat) qu0)).flatMap quC)];exact h))
 intro vf G B D
 have e2:=D 2 V
 have e3:=D 3 V
 have a0:=D 11 V
 have a1:(G 13)=[rowE 119 2 (slV v 0 ((es.length:Int)-1).toNat 2) ((e.set i (e.getD (((2*(i:Int))+1).toNat) qu0)).length) ((e.set i (e.getD (((2*(i:Int))+1).toNat) qu0)).flatMap quC)]:=D 13 V
 have X:=a1
 have q0:=D 0 V
 have q1:=D 1 V
 have q2:=D 2 V
 have q3:=D 3 V
 have q4:=D 4 V
 have q5:=D 5 V
 have q6:=D 6 V
 have q7:=D 7 V
 have q8:=D 8 V
 have q9:=D 9 V
 have a2:=D 10 V
 have a3:=D 11 V
 have a4:=D 12 V
 refine cL (bE [59,46,28,7,6,5,4,3,2,0] _ (aX 62 e2.1 (aX 63 e3.1 (aX 71 a0.1 (aA _)))) A) (by simp only[X,q0.2,q1.2,q2.2,q3.2,q4.2,q5.2,q6.2,q7.2,q8.2,q9.2,a2.2,a3.2,a4.2,fS]<;>rfl) ?_
 simp only[drop_succ_cons,drop_zero]
 refine aN A (cV 2 A A A A (aB 0 A) O AA) ?_
 refine jO (i:=0) (us:=[jI ((e.getD i qu0).d),jI ((e.getD i qu0).n)]) (n':=((e.set i (e.getD (((2*(i:Int))+1).toNat) qu0)).set (((2*(i:Int))+1).toNat) (e.getD i qu0)).length) (xs':=(((e.set i (e.getD (((2*(i:Int))+1).toNat) qu0)).set (((2*(i:Int))+1).toNat) (e.getD i qu0)).flatMap quC)) (l':=(rowE 119 2 (slV v 0 ((es.length:Int)-1).toNat 2) (((e.set i (e.getD (((2*(i:Int))+1).toNat) qu0)).set (((2*(i:Int))+1).toNat) (e.getD i qu0)).length) (((e.set i (e.getD (((2*(i:Int))+1).toNat) qu0)).set (((2*(i:Int))+1).toNat) (e.getD i qu0)).flatMap quC)::boxE b2 #[jI ((es.getD 0 qu0).d),jI ((es.getD 0 qu0).n)] 119::boxE Z #[jI 0,jI 0] 119::l)) A A A A A A (aC A (aC A bH)) A AA AG List.length_set.symm (jB quC 2 (fun _=>A) _ (e.getD i qu0) AA) A ?_
 refine dL (bP (eS 2 A (cG ?_)))
 exact bO ((2*(i:Int))+1).toNat ((e.set i (e.getD (((2*(i:Int))+1).toNat) qu0)).set (((2*(i:Int))+1).toNat) (e.getD i qu0)) ⟨.inr AO,by simp only[length_set];omega,((oE qu0 e _ _ O O).cons _).trans Y⟩ O (bE [5,4,3,2,0] _ (sk 6 (by rw[Int.toNat_of_nonneg O];rfl) (aA _)) A) (.refl _)
 have a8:¬(((2*(i:Int))+1)+1<(es.length:Int)-1):=of_decide_eq_false a5
 refine bL 18 [[],[0],[],[1,2],[3],[4],[4],[4],[4],[4],[4],[4],[4],[4],[4],[4],[4],[4,16]] [29,30,31,32,33,34,35,36,37,38,39,40,41,42,43,44,45,46] [jI ((2*(i:Int))+1),jI (((2*(i:Int))+1)+1),jI ((es.length:Int)-1),.bool false,.bool false,undef,undef,undef,undef,undef,undef,undef,undef,undef,undef,undef,undef,.bool false] F A ?_ ?_
 exact⟨aJ,aJ,aJ,aJ,aJ,aJ,aJ,aJ,aJ,aJ,aJ,aJ,aJ,aJ,aJ,aJ,aJ,aJ,trivial⟩
 simp only[drop_succ_cons,drop_zero]
 refine dL (aV A (eC (aG (aG ?_))))
 refine bL 11 [[],[],[0,1],[2],[3],[],[],[5,6],[7],[8],[4,9]] [49,50,51,52,53,54,55,56,57,58,59] [slV v 0 ((es.length:Int)-1).toNat 2,jI (i:Int),elP (slV v 0 ((es.length:Int)-1).toNat 2) ((i:Int).toNat*2),elP (slV v 0 ((es.length:Int)-1).toNat 2) ((i:Int).toNat*2+0),jI ((e.getD i qu0).d),slV v 0 ((es.length:Int)-1).toNat 2,jI ((2*(i:Int))+1),elP (slV v 0 ((es.length:Int)-1).toNat 2) (((2*(i:Int))+1).toNat*2),elP (slV v 0 ((es.length:Int)-1).toNat 2) (((2*(i:Int))+1).toNat*2+0),jI ((e.getD (((2*(i:Int))+1).toNat) qu0).d),.bool (decide ((e.getD i qu0).d≤(e.getD (((2*(i:Int))+1).toNat) qu0).d))] F A ?_ ?_
 exact⟨aJ,aJ,aJ,fL A (bR (k0:=0) A A A (aB 0 A) O) A,fL A (aL (u:=jI ((e.getD i qu0).d)) A A A (aB 0 A) ((dC quC 2 (fun _=>A) e qu0 (show i<_ by omega) V).trans A)) A,aJ,aJ,aJ,fL A (bR (k0:=0) A A A (aB 0 A) O) A,fL A (aL (u:=jI ((e.getD (((2*(i:Int))+1).toNat) qu0).d)) A A A (aB 0 A) ((dC quC 2 (fun _=>A) e qu0 (show((2*(i:Int))+1).toNat<_ by omega) V).trans A)) A,aJ,trivial⟩
 simp only[drop_succ_cons,drop_zero]
 refine dL ?_
 refine fO A (fun h9=>?_) (fun h9=>?_)
 have af:(e.getD i qu0).d≤(e.getD (((2*(i:Int))+1).toNat) qu0).d:=of_decide_eq_true h9
 refine bW (dB ?_)
 refine hZ A (dB ?_)
 refine aO (bB (aG (kR _ [59,46,28,7,6,5,4,3,0] A ?_)))
 refine bL 3 [[],[],[0]] [75,76,2] [slV v 0 ((es.length:Int)-1).toNat 2,.agg #[jI ((es.getD 0 qu0).d),jI ((es.getD 0 qu0).n)],slV v 0 ((es.length:Int)-1).toNat 2] F A ?_ ?_
 exact⟨aJ,aJ,aJ,trivial⟩
 simp only[drop_succ_cons,drop_zero]
 refine cA (cs':=#[jI ((es.getD 0 qu0).d),jI ((es.getD 0 qu0).n)]) (i:=2) (off:=0) (us:=[jI ((es.getD 0 qu0).d),jI ((es.getD 0 qu0).n)]) A A A A A A A (aC A (aC A bH)) A A A (dL ?_)
 exact cW (fU (rs:=[.tmp 2,.cell 3 119]) (vs:=[slV v 0 ((es.length:Int)-1).toNat 2,.agg #[jI ((es.getD 0 qu0).d),jI ((es.getD 0 qu0).n)]]) A ⟨A,⟨Z,0,[jI ((es.getD 0 qu0).d),jI ((es.getD 0 qu0).n)],A,A,F,F,aM 2 A 0 A⟩,trivial⟩ A (fun w hm=>⟨_,rS9 119 2 (slV v 0 ((es.length:Int)-1).toNat 2) e quC,A,⟨(es.getD 0 qu0),_,e,A,A,Y⟩,hm.sub (.cons_cons _ (pR 2 A))⟩))
 have af:¬((e.getD i qu0).d≤(e.getD (((2*(i:Int))+1).toNat) qu0).d):=of_decide_eq_false h9
 refine eC (aG ?_)
 refine gZ (l:=(boxE b2 #[jI ((es.getD 0 qu0).d),jI ((es.getD 0 qu0).n)] 119::boxE Z #[jI 0,jI 0] 119::l)) A 14 [0,1,2,3,4,5,6,7,8,9,10,11,12,13] (List.take 14 _) (List.drop 14 _) [[],[],[],[],[],[],[4,5],[6],[],[],[8,9],[10],[0,1],[7,12]] [some 60,some 61,some 62,some 63,some 64,some 65,some 66,some 67,some 68,some 69,some 70,some 71,some 72,none] (fun i_ a9 K J=>match i_ with|0=>K=slV v 0 ((es.length:Int)-1).toNat 2∧J=[]|1=>K=jI (i:Int)∧J=[]|2=>K=slV v 0 ((es.length:Int)-1).toNat 2∧J=[]|3=>K=jI ((2*(i:Int))+1)∧J=[]|4=>K=slV v 0 ((es.length:Int)-1).toNat 2∧J=[]|5=>K=jI ((2*(i:Int))+1)∧J=[]|6=>K=elP (slV v 0 ((es.length:Int)-1).toNat 2) (((2*(i:Int))+1).toNat*2)∧J=[]|7=>K=.agg #[jI ((e.getD (((2*(i:Int))+1).toNat) qu0).d),jI ((e.getD (((2*(i:Int))+1).toNat) qu0).n)]∧J=[]|8=>K=slV v 0 ((es.length:Int)-1).toNat 2∧J=[]|9=>K=jI (i:Int)∧J=[]|10=>K=elP (slV v 0 ((es.length:Int)-1).toNat 2) ((i:Int).toNat*2)∧J=[]|11=>K=.agg #[jI ((e.getD i qu0).d),jI ((e.getD i qu0).n)]∧J=[]|12=>K=elP (slV v 0 ((es.length:Int)-1).toNat 2) ((i:Int).toNat*2)∧J=[]|13=>J=[rowE 119 2 (slV v 0 ((es.length:Int)-1).toNat 2) ((e.set i (e.getD (((2*(i:Int))+1).toNat) qu0)).length) ((e.set i (e.getD (((2*(i:Int))+1).toNat) qu0)).flatMap quC)]|_=>True) [[],[],[],[],[],[],[4,5,16],[6,16],[],[],[8,9,16],[10,16],[0,1,16],[7,12]] [none,none,none,none,none,none,none,none,none,none,none,none,none,some 16] [[rS9 119 2 (slV v 0 ((es.length:Int)-1).toNat 2) e quC]] [0,1,2,3,4,5,6,7,8,9,10,11,12,13] 16 (take_append_drop 14 _).symm F F F A A ?_ ?_
 refine⟨?_,?_,?_,?_,?_,?_,?_,?_,?_,?_,?_,?_,?_,?_,trivial⟩
 intro vf G B D
 refine cD [] [] A (aZ (aD [0] A) ?_)
 exact aK (aU A)
 intro vf G B D
 refine cD [] [] A (aZ (aD [6] A) ?_)
 exact aK (aU A)
 intro vf G B D
 refine cD [] [] A (aZ (aD [0] A) ?_)
 exact aK (aU A)
 intro vf G B D
 refine cD [] [] A (aZ (aD [7] A) ?_)
 exact aK (aU A)
 intro vf G B D
 refine cD [] [] A (aZ (aD [0] A) ?_)
 exact aK (aU A)
 intro vf G B D
 refine cD [] [] A (aZ (aD [7] A) ?_)
 exact aK (aU A)
 intro vf G B D
 have e4:=D 4 V
 have e5:=D 5 V
 refine cD [4,5,16] [4,5] A ?_
 have E:G 16=[rS9 119 2 (slV v 0 ((es.length:Int)-1).toNat 2) e quC]:=B 0 (show 0<1 by omega)
 exact bQ (aX 64 e4.1 (aX 65 e5.1 (aA _))) (by simp only[E,e4.2,e5.2,fS]<;>rfl) (aK (cV 2 A A A A (aB 0 A)))
 intro vf G B D
 have e6:=D 6 V
 refine cD [6,16] [6] A ?_
 have E:G 16=[rS9 119 2 (slV v 0 ((es.length:Int)-1).toNat 2) e quC]:=B 0 (show 0<1 by omega)
 exact bQ (aX 66 e6.1 (aA _)) (by simp only[E,e6.2,fS]<;>rfl) (aK (cO (us:=[jI ((e.getD (((2*(i:Int))+1).toNat) qu0).d),jI ((e.getD (((2*(i:Int))+1).toNat) qu0).n)]) A A A A (aB 0 A) O A (dQ quC 2 (fun _=>A) e qu0 (show((2*(i:Int))+1).toNat<_ by omega) A)))
 intro vf G B D
 refine cD [] [] A (aZ (aD [0] A) ?_)
 exact aK (aU A)
 intro vf G B D
 refine cD [] [] A (aZ (aD [6] A) ?_)
 exact aK (aU A)
 intro vf G B D
 have e8:=D 8 V
 have e9:=D 9 V
 refine cD [8,9,16] [8,9] A ?_
 have E:G 16=[rS9 119 2 (slV v 0 ((es.length:Int)-1).toNat 2) e quC]:=B 0 (show 0<1 by omega)
 exact bQ (aX 68 e8.1 (aX 69 e9.1 (aA _))) (by simp only[E,e8.2,e9.2,fS]<;>rfl) (aK (cV 2 A A A A (aB 0 A)))
 intro vf G B D
 have M:=D 10 V
 refine cD [10,16] [10] A ?_
 have E:G 16=[rS9 119 2 (slV v 0 ((es.length:Int)-1).toNat 2) e quC]:=B 0 (show 0<1 by omega)
 exact bQ (aX 70 M.1 (aA _)) (by simp only[E,M.2,fS]<;>rfl) (aK (cO (us:=[jI ((e.getD i qu0).d),jI ((e.getD i qu0).n)]) A A A A (aB 0 A) O A (dQ quC 2 (fun _=>A) e qu0 (show i<_ by omega) A)))
 intro vf G B D
 have e0:=D 0 V
 have e1:=D 1 V
 refine cD [0,1,16] [0,1] A ?_
 have E:G 16=[rS9 119 2 (slV v 0 ((es.length:Int)-1).toNat 2) e quC]:=B 0 (show 0<1 by omega)
 exact bQ (aX 60 e0.1 (aX 61 e1.1 (aA _))) (by simp only[E,e0.2,e1.2,fS]<;>rfl) (aK (cV 2 A A A A (aB 0 A)))
 intro vf G B D
 have e7:=D 7 V
 have U:=D 12 V
 refine Or.inl ⟨A,?_⟩
 show RunM _ _ _ (G 16) (([7,12]:List Nat).flatMap G++_) (envOf3 _ vf [7,12]++_) _ _
 have E:G 16=[rS9 119 2 (slV v 0 ((es.length:Int)-1).toNat 2) e quC]:=B 0 (show 0<1 by omega)
 rw[E]
 exact eJ (aX 67 e7.1 (aX 72 U.1 (aA _))) (by simp only[e7.2,U.2,fS]<;>rfl) (jD (mB (us:=[jI ((e.getD (((2*(i:Int))+1).toNat) qu0).d),jI ((e.getD (((2*(i:Int))+1).toNat) qu0).n)]) (n':=(e.set i (e.getD (((2*(i:Int))+1).toNat) qu0)).length) (xs':=((e.set i (e.getD (((2*(i:Int))+1).toNat) qu0)).flatMap quC)) 0 A A A A A (aC A (aC A bH)) A AA AG List.length_set.symm (jB quC 2 (fun _=>A) _ (e.getD (((2*(i:Int))+1).toNat) qu0) AA)) (fun K J h=>by show J=[rowE 119 2 (slV v 0 ((es.length:Int)-1).toNat 2) ((e.set i (e.getD (((2*(i:Int))+1).toNat) qu0)).length) ((e.set i (e.getD (((2*(i:Int))+1).toNat) qu0)).flatMap quC)];exact h))
 intro vf G B D
 have e2:=D 2 V
 have e3:=D 3 V
 have a0:=D 11 V
 have a1:(G 13)=[rowE 119 2 (slV v 0 ((es.length:Int)-1).toNat 2) ((e.set i (e.getD (((2*(i:Int))+1).toNat) qu0)).length) ((e.set i (e.getD (((2*(i:Int))+1).toNat) qu0)).flatMap quC)]:=D 13 V
 have X:=a1
 have q0:=D 0 V
 have q1:=D 1 V
 have q2:=D 2 V
 have q3:=D 3 V
 have q4:=D 4 V
 have q5:=D 5 V
 have q6:=D 6 V
 have q7:=D 7 V
 have q8:=D 8 V
 have q9:=D 9 V
 have a2:=D 10 V
 have a3:=D 11 V
 have a4:=D 12 V
 refine cL (bE [59,46,28,7,6,5,4,3,2,0] _ (aX 62 e2.1 (aX 63 e3.1 (aX 71 a0.1 (aA _)))) A) (by simp only[X,q0.2,q1.2,q2.2,q3.2,q4.2,q5.2,q6.2,q7.2,q8.2,q9.2,a2.2,a3.2,a4.2,fS]<;>rfl) ?_
 simp only[drop_succ_cons,drop_zero]
 refine aN A (cV 2 A A A A (aB 0 A) O AA) ?_
 refine jO (i:=0) (us:=[jI ((e.getD i qu0).d),jI ((e.getD i qu0).n)]) (n':=((e.set i (e.getD (((2*(i:Int))+1).toNat) qu0)).set (((2*(i:Int))+1).toNat) (e.getD i qu0)).length) (xs':=(((e.set i (e.getD (((2*(i:Int))+1).toNat) qu0)).set (((2*(i:Int))+1).toNat) (e.getD i qu0)).flatMap quC)) (l':=(rowE 119 2 (slV v 0 ((es.length:Int)-1).toNat 2) (((e.set i (e.getD (((2*(i:Int))+1).toNat) qu0)).set (((2*(i:Int))+1).toNat) (e.getD i qu0)).length) (((e.set i (e.getD (((2*(i:Int))+1).toNat) qu0)).set (((2*(i:Int))+1).toNat) (e.getD i qu0)).flatMap quC)::boxE b2 #[jI ((es.getD 0 qu0).d),jI ((es.getD 0 qu0).n)] 119::boxE Z #[jI 0,jI 0] 119::l)) A A A A A A (aC A (aC A bH)) A AA AG List.length_set.symm (jB quC 2 (fun _=>A) _ (e.getD i qu0) AA) A ?_
 refine dL (bP (eS 2 A (cG ?_)))
 exact bO ((2*(i:Int))+1).toNat ((e.set i (e.getD (((2*(i:Int))+1).toNat) qu0)).set (((2*(i:Int))+1).toNat) (e.getD i qu0)) ⟨.inr AO,by simp only[length_set];omega,((oE qu0 e _ _ O O).cons _).trans Y⟩ O (bE [5,4,3,2,0] _ (sk 6 (by rw[Int.toNat_of_nonneg O];rfl) (aA _)) A) (.refl _)
theorem lS (xs:List Int) (x:Int) (v:Value) (w:World) (h:RdsW w v 1 xs.length (xs.map (Value.int .i64))) (G:xs.length≤1000000000) :
   Calls Tryz.prog 71 #[v,.int .i64 x] w (Ans w (.bool (hasB xs x))):=by
 refine aY (N:=17) (args:=[v,jI x]) Tryz.func71 A A (cF 1 A (aG (aG (cN 1 A (aN A (eV A A A (aE h)) (aS 1 A (go ?_)))))))
 refine lC (α:=Nat) [0,1,4,7,8] A (fun j=>[]) (fun j=>[(9,jI (j:Int))]) (fun j=>j≤xs.length∧∀i,i<j→xs.getD i 0≠x) (fun j=>xs.length-j) 0 ⟨O,fun i B=>absurd B O⟩ (bV A) (.slnil) fun j D=>go ?_
 obtain⟨J,e⟩:=D
 refine aW A A A A A A (fun K=>go ?_) (fun K=>go ?_)
 refine aN A (cV 1 A A A A (aE h)) (aN A (lD A A A (aE h)) (go ?_))
 refine bZ A A A A A A (fun M=>go ?_) (fun M=>go ?_)
 exact aT A A (congrArg _ (Kt xs x j O I).symm)
 exact dR (j+1) ⟨O,fun i B=>by by_cases E:i=j;(subst E;assumption);exact e i O⟩ O (bV A) (.slnil)
 exact aT A A (congrArg _ (Ks xs x (fun i B=>e i O)).symm)
theorem vU (d:Dev) (w:World) (U:devB d=true) :
   Calls Tryz.prog 55 #[.agg #[.int .i64 d.W,.int .i64 d.H,.int .i64 d.T,.int .i64 d.R]] w (Ret w (fun X post=>∃es:List IR,post=[irsE X es]∧SOk d (allI d).toNat (allI d).toNat es∧X.oneCell'=true)):=by
 obtain⟨Y,Z⟩:=eM U
 have a0:(replicate (allI d).toNat ir0).length=(allI d).toNat:=length_replicate
 refine aY (N:=21) (args:=[.agg #[jI d.W,jI d.H,jI d.T,jI d.R]]) Tryz.func55 A A (dW ?_)
 refine cU A (cE A A) fun D=>go ?_
 refine cM A (aF A A (fun w B=>aI (iJ d w U))) (cH A (fB (z:=.slice none 0 0) (s:=1) (bytes:=24) (n:=(replicate (allI d).toNat ir0).length) (cs:=((replicate (allI d).toNat ir0).flatMap irC)) A Tryz.underlying57 A V A A AB AB AF (fZ irC 1 (fun _=>A) ir0 _ A (allI d).toNat)) fun h=>go ?_)
 refine fK [bigE ((replicate (allI d).toNat ir0).map irPart),rowE 26 1 (.slice (some ⟨h,0,none⟩) ((replicate (allI d).toNat ir0).length) ((replicate (allI d).toNat ir0).length)) ((replicate (allI d).toNat ir0).length) ((replicate (allI d).toNat ir0).flatMap irC),boxE D #[jI d.W,jI d.H,jI d.T,jI d.R] 25] (fun w B=>B.irNil (allI d).toNat) ?_
 refine iG (α:=Nat) (β:=List IR) [0,1,2,3,9] A (fun k es=>[bigE (es.map irPart),rS9 26 1 (.slice (some ⟨h,0,none⟩) ((replicate (allI d).toNat ir0).length) ((replicate (allI d).toNat ir0).length)) es irC,boxE D #[jI d.W,jI d.H,jI d.T,jI d.R] 25]) (fun k es=>[(10,jI (k:Int))]) (fun k es=>k≤(allI d).toNat∧SOk d (allI d).toNat k es) (fun k es=>(allI d).toNat-k) 0 (replicate (allI d).toNat ir0) ⟨O,Jr _ _⟩ (bV A) (cZ A) fun k es E=>go ?_
 obtain⟨hk,G⟩:=E
 have a1:=G.len
 refine aW A A A A A A (fun h4=>go ?_) (fun h4=>go ?_)
 refine fF A A A (aF A A (fun w B=>nJ d _ w)) fun e p6 R7=>?_
 subst R7
 refine aN A (cV 1 A A A A (aB 2 A)) (eE (i:=0) A (fun J=>?_))
 refine dS (i:=2) (n':=(es.set k (IR.mk e (srcI d (k:Int)))).length) A A A A A A J A AA List.length_set.symm (eF irC (fun r=>r.v) (fun _=>A) _ (IR.mk e (srcI d (k:Int))) A) A (kQ 4 [3,2,1,0] A A V ?_)
 refine jZ [bigE ((es.set k (IR.mk e (srcI d (k:Int)))).map irPart),rowE 26 1 (.slice (some ⟨h,0,none⟩) ((replicate (allI d).toNat ir0).length) ((replicate (allI d).toNat ir0).length)) ((es.set k (IR.mk e (srcI d (k:Int)))).length) ((es.set k (IR.mk e (srcI d (k:Int)))).flatMap irC),boxE D #[jI d.W,jI d.H,jI d.T,jI d.R] 25] (Dg (es:=es) (j:=k) (e':=(IR.mk e (srcI d (k:Int)))) AA) (go ?_)
 exact bO (k+1) (es.set k (IR.mk e (srcI d (k:Int)))) ⟨O,G.step O⟩ O (bV A) (cZ A)
 refine bN 3 [1,0] A A V ?_
 refine uX (i:=1) A (fun K=>?_)
 refine fH [irsE (.slice (some ⟨h,0,none⟩) ((replicate (allI d).toNat ir0).length) ((replicate (allI d).toNat ir0).length)) es] (fun w B=>Mem.big (ps:=[bigE (es.map irPart),rS9 26 1 (.slice (some ⟨h,0,none⟩) ((replicate (allI d).toNat ir0).length) ((replicate (allI d).toNat ir0).length)) es irC]) B) ?_
 have M:k=(allI d).toNat:=O
 subst M
 exact bM (post:=[irsE (.slice (some ⟨h,0,none⟩) ((replicate (allI d).toNat ir0).length) ((replicate (allI d).toNat ir0).length)) es]) A A (cZ A) ⟨es,A,G,K⟩
theorem Bi (e h:Value) (B:e.oneCell'=true) (D:h.oneCell'=true):Tryz.prog.built 83 [(0,e),(1,h)]=some #[e,h]:=by
  cases e<;>first|(exact absurd B Bool.false_ne_true)|(cases h<;>first|(exact absurd D Bool.false_ne_true)|kernel_rfl)
end Go.Proofs.YtkbplgggflljlaaGreat
