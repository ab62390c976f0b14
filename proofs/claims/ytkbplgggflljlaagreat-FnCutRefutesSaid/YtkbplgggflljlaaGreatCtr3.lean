/- Texts of the law FnCutRefutes, part 3: what it uses. -/
import Derived.Test.YtkbplgggflljlaaGreatCtr2
set_option linter.unusedVariables false
set_option linter.unusedSimpArgs false
set_option maxHeartbeats 4000000
set_option maxRecDepth 100000
namespace Go.Proofs.YtkbplgggflljlaaGreat
open Go.RowKit Go.ChangeShapes
open Go.RowKit
open Go.Maps
open List (drop_succ_cons drop_zero getD_eq_getElem?_getD length_append length_cons length_drop length_map length_replicate length_set length_singleton length_take map_append map_cons map_nil mem_cons_of_mem mem_cons_self mem_range mem_singleton nil_append replicate sublist_append_right take_append_drop take_length)
open Bool (and_eq_true eq_false_or_eq_true)
theorem uQ (n:Nt) (ls:List Int) (lv:Value) (e h:Int) (w:World) (hr:RdsNt w n) (hn:NtOk n) (hl:RdsW w lv 1 ls.length (ls.map (Value.int .i64))) (c5:(ls.length:Int)=n.cnt) (aj:0≤e∧e<n.cnt) :
   Calls Tryz.prog 130 #[.agg #[.int .i64 n.ins,n.sv,n.av,n.ov],lv,.int .i64 e,.int .i64 h] w (Ret w (fun u_ p_=>∃(xs:List Int) (cv:Value) (ax:Bool),u_=.tuple #[cv,.bool ax]∧p_=[rI9 3 cv xs]∧(xs.length:Int)≤n.cnt∧∀x∈xs,0≤x∧x<n.cnt)):=by
 have c6:=hn.i0
 have c7:=hn.i1
 have c8:=hn.s1
 have ay:=hn.a1
 have c9:=hn.o1
 have bt:n.cnt=1+n.ins+n.ss.length+n.gs.length:=rfl
 have bu:n.fst=1+n.ins+n.ss.length:=rfl
 refine aY (N:=178) (args:=[.agg #[jI n.ins,n.sv,n.av,n.ov],lv,jI e,jI h]) Tryz.func130 A A (dW ?_)
 refine cU A (cE A A) ?_
 intro b1
 refine bG 2 A (dW (aN A (aP (cs:=[jI n.ins,n.sv,n.av,n.ov]) A A A A A (aM 0 A 0 A)) (aS 1 A ?_)))
 refine fF A A A (aF A A (fun w hm=>Bq n e w (hr.below hm.bel) hn aj)) ?_
 intro D p3 R4
 obtain⟨cs,rfl,ca,a9⟩:∃cs:List Int,p3=[rI9 3 D cs]∧(cs.length:Int)≤n.cnt∧∀x∈cs,0≤x∧x≤e:=⟨_,R4,xA n e O,wZ hn aj.1⟩
 refine bG 1 A (dW (aN A (aP (cs:=[jI n.ins,n.sv,n.av,n.ov]) A A A A A (aM 1 A 0 A)) ?_))
 refine cM A (aF A A (fun w hm=>aI (dK n w (hr.below hm.bel) hn))) (cH A (fB (z:=.bool false) (s:=1) (bytes:=1) (n:=(replicate n.cnt.toNat bl0).length) (cs:=((replicate n.cnt.toNat bl0).flatMap blC)) A Tryz.underlying61 A V A A AB AB AF (fZ blC 1 (fun _=>A) bl0 _ A n.cnt.toNat)) ?_)
 intro Y
 refine bG 1 A (aG (cF 1 A (bS ?_)))
 refine iG (α:=Nat) (β:=List Bl) [0,1,2,3,4,8,9,10,11] rfl (fun i us=>[rS9 4 1 (.slice (some ⟨Y,0,none⟩) ((replicate n.cnt.toNat bl0).length) ((replicate n.cnt.toNat bl0).length)) us blC,rI9 3 D cs,nB9 b1 n]) (fun i us=>[(12,jI (i:Int))]) (fun i us=>i≤cs.length∧us.length=n.cnt.toNat) (fun i us=>cs.length-i) 0 _ ⟨Nat.zero_le _,by rw[length_replicate]⟩ (bV rfl) (cZ rfl) ?_
 intro i us az
 obtain⟨hi,ae⟩:=az
 refine aG (aG (cN 2 A (aN A (eV A A A (aB 1 A)) ?_)))
 refine aW A A A A A A (fun h7=>?_) (fun h7=>?_)
 refine dL (aR A (eC (jR ?_)))
 have aa:=a9 _ (dJ (d:=(0:Int)) (show i<cs.length by omega))
 rcases eq_false_or_eq_true ((cs.getD i 0)==e) with af|af
 have ak:cs.getD i 0=e:=beq_iff_eq.1 af
 have aa:=a9 _ (dJ (d:=(0:Int)) (show i<cs.length by omega))
 refine bL 23 [[],[],[],[1,2],[3],[],[],[5,6],[7],[],[8,9],[10],[11],[11],[11],[11],[11],[11],[11],[11],[11],[11,20],[0,4]] [35,36,37,38,39,40,41,42,43,44,45,46,47,48,49,50,51,52,53,54,55,56,57] [.slice (some ⟨Y,0,none⟩) ((replicate n.cnt.toNat bl0).length) ((replicate n.cnt.toNat bl0).length),D,jI (i:Int),elP D ((i:Int).toNat*1),jI (cs.getD i 0),D,jI (i:Int),elP D ((i:Int).toNat*1),jI (cs.getD i 0),jI e,.bool true,.bool true,undef,undef,undef,undef,undef,undef,undef,undef,undef,.bool true,elP (.slice (some ⟨Y,0,none⟩) ((replicate n.cnt.toNat bl0).length) ((replicate n.cnt.toNat bl0).length)) ((cs.getD i 0).toNat*1)] F A ?_ ?_
 exact⟨aJ,aJ,aJ,aJ,aJ,aJ,aJ,aJ,aJ,aJ,aJ,aJ,aJ,aJ,aJ,aJ,aJ,aJ,aJ,aJ,aJ,aJ,aJ,trivial⟩
 simp only[drop_succ_cons,drop_zero]
 refine dS (i:=0) (n':=(us.set ((cs.getD i 0).toNat) { us.getD ((cs.getD i 0).toNat) bl0 with b:=true }).length) A A A A A A A A AA List.length_set.symm (eF blC (fun r=>.bool r.b) (fun _=>A) _ ({ us.getD ((cs.getD i 0).toNat) bl0 with b:=true }) A) A (cP (eB (cN 1 A (aN A (eY A A A) (eS 1 A ?_)))))
 exact bO (i+1) (us.set ((cs.getD i 0).toNat) { us.getD ((cs.getD i 0).toNat) bl0 with b:=true }) ⟨O,by rw[length_set];exact ae⟩ O (bV rfl) (cZ rfl)
 have ak:cs.getD i 0≠e:=beq_eq_false_iff_ne.1 af
 have aa:=a9 _ (dJ (d:=(0:Int)) (show i<cs.length by omega))
 rcases eq_false_or_eq_true (decide (h≤ls.getD ((cs.getD i 0).toNat) 0)) with ag|ag
 have al:h≤ls.getD ((cs.getD i 0).toNat) 0:=of_decide_eq_true ag
 have aa:=a9 _ (dJ (d:=(0:Int)) (show i<cs.length by omega))
 refine bL 23 [[],[],[],[1,2],[3],[],[],[5,6],[7],[],[8,9],[10],[11],[11],[11],[11,13,14],[11,15],[11,12,16],[11,17],[11],[11,18,19],[11,20],[0,4]] [35,36,37,38,39,40,41,42,43,44,45,46,47,48,49,50,51,52,53,54,55,56,57] [.slice (some ⟨Y,0,none⟩) ((replicate n.cnt.toNat bl0).length) ((replicate n.cnt.toNat bl0).length),D,jI (i:Int),elP D ((i:Int).toNat*1),jI (cs.getD i 0),D,jI (i:Int),elP D ((i:Int).toNat*1),jI (cs.getD i 0),jI e,.bool false,.bool false,lv,D,jI (i:Int),elP D ((i:Int).toNat*1),jI (cs.getD i 0),elP lv ((cs.getD i 0).toNat*1),jI (ls.getD ((cs.getD i 0).toNat) 0),jI h,.bool true,.bool true,elP (.slice (some ⟨Y,0,none⟩) ((replicate n.cnt.toNat bl0).length) ((replicate n.cnt.toNat bl0).length)) ((cs.getD i 0).toNat*1)] F A ?_ ?_
 exact⟨aJ,aJ,aJ,aJ,aJ,aJ,aJ,aJ,aJ,aJ,aJ,aJ,aJ,aJ,aJ,aJ,aJ,aJ,aJ,aJ,aJ,aJ,aJ,trivial⟩
 simp only[drop_succ_cons,drop_zero]
 refine dS (i:=0) (n':=(us.set ((cs.getD i 0).toNat) { us.getD ((cs.getD i 0).toNat) bl0 with b:=true }).length) A A A A A A A A AA List.length_set.symm (eF blC (fun r=>.bool r.b) (fun _=>A) _ ({ us.getD ((cs.getD i 0).toNat) bl0 with b:=true }) A) A (cP (eB (cN 1 A (aN A (eY A A A) (eS 1 A ?_)))))
 exact bO (i+1) (us.set ((cs.getD i 0).toNat) { us.getD ((cs.getD i 0).toNat) bl0 with b:=true }) ⟨O,by rw[length_set];exact ae⟩ O (bV rfl) (cZ rfl)
 have al:¬(h≤ls.getD ((cs.getD i 0).toNat) 0):=of_decide_eq_false ag
 have aa:=a9 _ (dJ (d:=(0:Int)) (show i<cs.length by omega))
 refine bL 23 [[],[],[],[1,2],[3],[],[],[5,6],[7],[],[8,9],[10],[11],[11],[11],[11,13,14],[11,15],[11,12,16],[11,17],[11],[11,18,19],[11,20],[0,4]] [35,36,37,38,39,40,41,42,43,44,45,46,47,48,49,50,51,52,53,54,55,56,57] [.slice (some ⟨Y,0,none⟩) ((replicate n.cnt.toNat bl0).length) ((replicate n.cnt.toNat bl0).length),D,jI (i:Int),elP D ((i:Int).toNat*1),jI (cs.getD i 0),D,jI (i:Int),elP D ((i:Int).toNat*1),jI (cs.getD i 0),jI e,.bool false,.bool false,lv,D,jI (i:Int),elP D ((i:Int).toNat*1),jI (cs.getD i 0),elP lv ((cs.getD i 0).toNat*1),jI (ls.getD ((cs.getD i 0).toNat) 0),jI h,.bool false,.bool false,elP (.slice (some ⟨Y,0,none⟩) ((replicate n.cnt.toNat bl0).length) ((replicate n.cnt.toNat bl0).length)) ((cs.getD i 0).toNat*1)] F A ?_ ?_
 exact⟨aJ,aJ,aJ,aJ,aJ,aJ,aJ,aJ,aJ,aJ,aJ,aJ,aJ,aJ,aJ,aJ,aJ,aJ,aJ,aJ,aJ,aJ,aJ,trivial⟩
 simp only[drop_succ_cons,drop_zero]
 refine dS (i:=0) (n':=(us.set ((cs.getD i 0).toNat) { us.getD ((cs.getD i 0).toNat) bl0 with b:=false }).length) A A A A A A A A AA List.length_set.symm (eF blC (fun r=>.bool r.b) (fun _=>A) _ ({ us.getD ((cs.getD i 0).toNat) bl0 with b:=false }) A) A (cP (eB (cN 1 A (aN A (eY A A A) (eS 1 A ?_)))))
 exact bO (i+1) (us.set ((cs.getD i 0).toNat) { us.getD ((cs.getD i 0).toNat) bl0 with b:=false }) ⟨O,by rw[length_set];exact ae⟩ O (bV rfl) (cZ rfl)
 refine dL (aV A ?_)
 refine bW (fM ?_)
 refine aO (bB (dW (aN A (aP (cs:=[jI n.ins,n.sv,n.av,n.ov]) A A A A A (aM 2 A 0 A)) ?_)))
 refine cM A (aF A A (fun w hm=>aI (dK n w (hr.below hm.bel) hn))) (cH A (fB (z:=.bool false) (s:=1) (bytes:=1) (n:=(replicate n.cnt.toNat bl0).length) (cs:=((replicate n.cnt.toNat bl0).flatMap blC)) A Tryz.underlying61 A V A A AB AB AF (fZ blC 1 (fun _=>A) bl0 _ A n.cnt.toNat)) ?_)
 intro G
 refine bG 1 A (dW (aN A (aP (cs:=[jI n.ins,n.sv,n.av,n.ov]) A A A A A (aM 3 A 0 A)) ?_))
 refine cM A (aF A A (fun w hm=>aI (dK n w (hr.below hm.bel) hn))) (cH A (fB (z:=jI 0) (s:=1) (bytes:=8) (n:=(replicate n.cnt.toNat (0:Int)).length) (cs:=(mI (replicate n.cnt.toNat (0:Int)))) A z8 A V A A AB AB AF (gW _)) ?_)
 intro J
 refine bG 1 A (dW ?_)
 refine cH A (bU (s:=1) A z8 A) ?_
 intro B
 refine bG 1 A (aG (cF 1 A (bS ?_)))
 refine lC (α:=Nat) [0,1,2,3,4,8,9,10,11,13,14,15,32] A (fun k=>[rowE 3 1 (.slice (some ⟨B,0,none⟩) 0 0) 0 ([]),rowE 3 1 (.slice (some ⟨J,0,none⟩) ((replicate n.cnt.toNat (0:Int)).length) ((replicate n.cnt.toNat (0:Int)).length)) ((replicate n.cnt.toNat (0:Int)).length) (mI (replicate n.cnt.toNat (0:Int))),rowE 4 1 (.slice (some ⟨G,0,none⟩) ((replicate n.cnt.toNat bl0).length) ((replicate n.cnt.toNat bl0).length)) ((replicate n.cnt.toNat bl0).length) ((replicate n.cnt.toNat bl0).flatMap blC),rS9 4 1 (.slice (some ⟨Y,0,none⟩) ((replicate n.cnt.toNat bl0).length) ((replicate n.cnt.toNat bl0).length)) us blC,rI9 3 D cs,nB9 b1 n]) (fun k=>[(16,jI (k:Int))]) (fun k=>(k:Int)≤n.fst) (fun k=>n.fst.toNat-k) 0 O (bV A) (cZ A) ?_
 intro k am
 have hk:=am
 refine aG (aG (cN 1 A (aN A (aP (cs:=[jI n.ins,n.sv,n.av,n.ov]) A A A A A (aM 5 A 0 A)) ?_)))
 refine cM A (aF A A (fun w hm=>aI (dZ n w (hr.below hm.bel) hn))) (aW A A A A A A (fun b0=>?_) (fun b0=>?_))
 refine dL (aR A (eC (jR (aG (cN 2 A (aN A (cV 1 A A A A (aB 3 A)) ?_))))))
 refine aN A (aL (u:=.bool ((us.getD k bl0).b)) A A A (aB 3 A) (dF blC (fun r=>.bool r.b) (fun _=>A) us bl0 (show k<_ by omega))) (bD (fun b2=>?_) (fun b2=>?_))
 refine dL (aR A (cF 3 A ?_))
 refine cW (dE ?_)
 refine rR ?_
 refine dE (cK ?_)
 exact eQ (rs:=[.tmp 8,.tmp 9]) (vs:=[.slice (some ⟨B,0,none⟩) 0 0,.bool false]) (post:=[rowE 3 1 (.slice (some ⟨B,0,none⟩) 0 0) 0 ([])]) A ⟨A,A,trivial⟩ A (eA [0] A) ⟨[],_,_,A,A,by simp;omega,fun x hx=>by cases hx⟩
 refine dL (jQ A (eB (cN 1 A (aN A (eY A A A) (eS 1 A ?_)))))
 exact dR (k+1) O O (bV A) (cZ A)
 refine dL (aV A ?_)
 refine bW (fM ?_)
 refine aO (bB (aG (cF 1 A (bS ?_))))
 refine fP (α:=Nat) (β:=List Bl) (γ:=List Int) [0,1,2,3,4,8,9,10,11,13,14,15,32,68] rfl (fun f ds ab=>[rowE 3 1 (.slice (some ⟨B,0,none⟩) 0 0) 0 ([]),rI9 3 (.slice (some ⟨J,0,none⟩) ((replicate n.cnt.toNat (0:Int)).length) ((replicate n.cnt.toNat (0:Int)).length)) ab,rS9 4 1 (.slice (some ⟨G,0,none⟩) ((replicate n.cnt.toNat bl0).length) ((replicate n.cnt.toNat bl0).length)) ds blC,rS9 4 1 (.slice (some ⟨Y,0,none⟩) ((replicate n.cnt.toNat bl0).length) ((replicate n.cnt.toNat bl0).length)) us blC,rI9 3 D cs,nB9 b1 n]) (fun f ds ab=>[(17,jI (f:Int))]) (fun f ds ab=>f≤5∧ds.length=n.cnt.toNat∧AbOk n.cnt ab) (fun f ds ab=>5-f) 0 _ _ ⟨O,by rw[length_replicate],AbOk.start O⟩ (bV rfl) (cZ rfl) ?_
 intro f ds ab an
 obtain⟨hf,b3,ah⟩:=an
 have bw:=ah.1
 refine aG (aG (cN 1 A ?_))
 refine iA A A A A A A (fun b4=>?_) (fun b4=>?_)
 refine dL (aR A (eC (jR (dW (aN A (aP (cs:=[jI n.ins,n.sv,n.av,n.ov]) A A A A A (aM 5 A 0 A)) (aS 3 A ?_))))))
 refine fF A A A (aF A A (fun w hm=>Dl n us ds ab _ _ _ w (hr.below hm.bel) hn ((aB 3 A) w hm) O ((aB 2 A) w hm) O ((aB 1 A) w hm) ah)) ?_
 intro cb cc b5
 obtain⟨bs,bv,b6,rfl,rfl,ai,bx,bz⟩:=b5
 obtain⟨r,b7⟩:=ai.rank
 have cd:=ai.len
 refine bG 5 A (aG (aG (cN 1 A ?_)))
 refine aW A A A A A A (fun b8=>?_) (fun b8=>?_)
 refine dL (aR A (aG (cF 1 A (bS ?_))))
 refine fP (α:=Nat) (β:=Value) (γ:=List Int) [0,1,2,3,4,8,9,10,11,13,14,17,18,19,32,68,77,89] A (fun k8 ov os=>[rI9 3 bv bs,rI9 3 ov os,rI9 3 (.slice (some ⟨J,0,none⟩) ((replicate n.cnt.toNat (0:Int)).length) ((replicate n.cnt.toNat (0:Int)).length)) ab,rS9 4 1 (.slice (some ⟨G,0,none⟩) ((replicate n.cnt.toNat bl0).length) ((replicate n.cnt.toNat bl0).length)) ds blC,rS9 4 1 (.slice (some ⟨Y,0,none⟩) ((replicate n.cnt.toNat bl0).length) ((replicate n.cnt.toNat bl0).length)) us blC,rI9 3 D cs,nB9 b1 n]) (fun k8 ov os=>[(15,ov),(20,jI (k8:Int))]) (fun k8 ov os=>(k8:Int)≤n.cnt∧os.length≤k8∧∀x∈os,0≤x∧x<n.cnt) (fun k8 ov os=>n.cnt.toNat-k8) 0 _ [] ⟨O,AI,fun x hx=>by cases hx⟩ (bV A) (cZ A) ?_
 intro k8 ov os ao
 obtain⟨ce,cf,ac⟩:=ao
 refine aG (aG (cN 1 A (aN A (aP (cs:=[jI n.ins,n.sv,n.av,n.ov]) A A A A A (aM 6 A 0 A)) ?_)))
 refine cM A (aF A A (fun w hm=>aI (dK n w (hr.below hm.bel) hn))) (aW A A A A A A (fun b9=>?_) (fun b9=>?_))
 refine dL (aR A (eC (jR (aG (cN 2 A (aN A (eZ A A A AE) (aN A (cV 1 A A A A (aB 0 A)) (aN A (lP A A A (aB 0 A)) ?_))))))))
 refine jY A A A A A A (fun ba=>?_) (fun ba=>?_)
 refine aS 3 A (aN A (eZ A A A AE) (aN A (eY A A A) (aN A (cV 1 A A A A (aB 0 A)) (aN A (lP A A A (aB 0 A)) ?_))))
 refine bZ A A A A A A (fun bb=>?_) (fun bb=>?_)
 refine bG 1 A (aR A (cN 2 A ?_))
 refine cH A (aH (z:=jI 0) (s:=1) (cs:=(mI [(k8:Int)])) A z8 A V A F A) ?_
 intro cg
 refine bT (i:=2) (z:=jI 0) (bytes:=8) A A A A z8 F A A A A (aB 0 A) (bI _) AD (bK os ([(k8:Int)])) (cB os ([(k8:Int)])) (fun _=>A) ?_
 intro bc
 refine eS 1 A (eB (cN 1 A (aN A (eY A A A) (eS 1 A ?_))))
 exact aQ (k8+1) bc (os++([(k8:Int)])) ⟨O,by rw[length_append,length_singleton];omega,pU ac O⟩ O (bV rfl) (eA [1,0,0,0,0,0,0] rfl)
 refine bG 1 A (jQ A (eB (cN 1 A (aN A (eY A A A) (eS 1 A ?_)))))
 exact aQ (k8+1) ov os ⟨O,O,ac⟩ O (bV A) (cZ A)
 refine bG 9 A (jQ A (eB ?_))
 refine cN 1 A (aN A (eY A A A) (eS 1 A ?_))
 exact aQ (k8+1) ov os ⟨O,O,ac⟩ O (bV A) (cZ A)
 refine dL (aV A ?_)
 refine bW (fM ?_)
 refine aO (bB (cF 3 A ?_))
 refine cW (cK ?_)
 refine dE (rR ?_)
 refine dE (cK ?_)
 exact eQ (rs:=[.tmp 8,.tmp 9]) (vs:=[ov,.bool true]) (post:=[rI9 3 ov os]) A ⟨A,A,trivial⟩ A (eA [1] A) ⟨os,_,_,A,A,O,ac⟩
 refine dL (aV A (eC (bS ?_)))
 refine fP (α:=Int) (β:=List Bl) (γ:=List Int) [0,1,2,3,4,8,9,10,11,13,14,15,17,18,32,68,77,89] A (fun a E U=>[rI9 3 bv bs,rowE 3 1 (.slice (some ⟨B,0,none⟩) 0 0) 0 ([]),rI9 3 (.slice (some ⟨J,0,none⟩) ((replicate n.cnt.toNat (0:Int)).length) ((replicate n.cnt.toNat (0:Int)).length)) U,rS9 4 1 (.slice (some ⟨G,0,none⟩) ((replicate n.cnt.toNat bl0).length) ((replicate n.cnt.toNat bl0).length)) E blC,rS9 4 1 (.slice (some ⟨Y,0,none⟩) ((replicate n.cnt.toNat bl0).length) ((replicate n.cnt.toNat bl0).length)) us blC,rI9 3 D cs,nB9 b1 n]) (fun a E U=>[(19,jI a)]) (fun a E U=>-2≤a∧a<2*n.cnt∧E.length=n.cnt.toNat∧AbOk n.cnt U) (fun a E U=>(if 0≤a then r a.toNat+1 else 0)) b6 ds ab ⟨O,O,b3,ah⟩ (bV A) (cZ A) ?_
 intro a E U ap
 obtain⟨ch,ay,c0,a0⟩:=ap
 have bd:=a0.1
 refine aG (aG (cN 1 A ?_))
 refine eK A A A A A A (fun be=>?_) (fun be=>?_)
 refine dL (aR A (eC (bS (dW ?_))))
 have ci:=ai.rng a.toNat O
 refine aS 2 A (aN A (cV 1 A A A A (aB 0 A)) (aN A (lP A A A (aB 0 A)) (bG 1 A (aG (cN 1 A ?_)))))
 refine aN A (gD A A A AH) ?_
 refine bG 1 A ?_
 refine kX (α:=List Bl) (β:=List Int) (fun K a2=>[rI9 3 bv bs,rowE 3 1 (.slice (some ⟨B,0,none⟩) 0 0) 0 ([]),rI9 3 (.slice (some ⟨J,0,none⟩) ((replicate n.cnt.toNat (0:Int)).length) ((replicate n.cnt.toNat (0:Int)).length)) a2,rS9 4 1 (.slice (some ⟨G,0,none⟩) ((replicate n.cnt.toNat bl0).length) ((replicate n.cnt.toNat bl0).length)) K blC,rS9 4 1 (.slice (some ⟨Y,0,none⟩) ((replicate n.cnt.toNat bl0).length) ((replicate n.cnt.toNat bl0).length)) us blC,rI9 3 D cs,nB9 b1 n]) (fun K a2=>[(0,.agg #[jI n.ins,n.sv,n.av,n.ov]),(1,lv),(2,jI e),(3,jI h),(4,pI b1),(8,.slice none 0 0),(9,.bool false),(10,D),(11,.slice (some ⟨Y,0,none⟩) ((replicate n.cnt.toNat bl0).length) ((replicate n.cnt.toNat bl0).length)),(13,.slice (some ⟨G,0,none⟩) ((replicate n.cnt.toNat bl0).length) ((replicate n.cnt.toNat bl0).length)),(14,.slice (some ⟨J,0,none⟩) ((replicate n.cnt.toNat (0:Int)).length) ((replicate n.cnt.toNat (0:Int)).length)),(15,.slice (some ⟨B,0,none⟩) 0 0),(17,jI (f:Int)),(18,bv),(19,jI a),(21,jI (bs.getD (a.toNat) 0)),(22,jI (a / 2)),(32,.bool false),(68,.bool false),(77,.bool true),(89,.bool false),(117,.bool true)]) (fun K a2=>K.length=n.cnt.toNat∧AbOk n.cnt a2) ?_ ?_
 refine aG (cN 1 A (aN A (fT A A A AE) ?_))
 refine bZ A A A A A A (fun bf=>?_) (fun bf=>?_)
 refine aS 3 A (aN A (nK A A A) ?_)
 refine bZ A A A A A A (fun bg=>?_) (fun bg=>?_)
 refine bG 1 A (aR A (cN 2 A (aN A (cV 1 A A A A (aB 3 A)) ?_)))
 refine dS (i:=3) (n':=(E.set ((a / 2).toNat) { E.getD ((a / 2).toNat) bl0 with b:=true }).length) A A A A A A A A AA List.length_set.symm (eF blC (fun r=>.bool r.b) (fun _=>A) _ ({ E.getD ((a / 2).toNat) bl0 with b:=true }) A) A (cP ?_)
 exact eU (E.set ((a / 2).toNat) { E.getD ((a / 2).toNat) bl0 with b:=true }) U ⟨by first|omega|(simp only[length_set];omega),a0⟩ (bV A) (cZ A)
 refine bG 1 A (jQ A ?_)
 exact eU E U ⟨by first|omega|(simp only[length_set];omega),a0⟩ (bV A) (cZ A)
 refine bG 6 A (jQ A ?_)
 exact eU E U ⟨by first|omega|(simp only[length_set];omega),a0⟩ (bV A) (cZ A)
 intro K a2 aq
 obtain⟨c1,a5⟩:=aq
 have bh:=a5.1
 refine kX (α:=List Bl) (β:=List Int) (fun a3 X=>[rI9 3 bv bs,rowE 3 1 (.slice (some ⟨B,0,none⟩) 0 0) 0 ([]),rI9 3 (.slice (some ⟨J,0,none⟩) ((replicate n.cnt.toNat (0:Int)).length) ((replicate n.cnt.toNat (0:Int)).length)) X,rS9 4 1 (.slice (some ⟨G,0,none⟩) ((replicate n.cnt.toNat bl0).length) ((replicate n.cnt.toNat bl0).length)) a3 blC,rS9 4 1 (.slice (some ⟨Y,0,none⟩) ((replicate n.cnt.toNat bl0).length) ((replicate n.cnt.toNat bl0).length)) us blC,rI9 3 D cs,nB9 b1 n]) (fun a3 X=>[(0,.agg #[jI n.ins,n.sv,n.av,n.ov]),(1,lv),(2,jI e),(3,jI h),(4,pI b1),(8,.slice none 0 0),(9,.bool false),(10,D),(11,.slice (some ⟨Y,0,none⟩) ((replicate n.cnt.toNat bl0).length) ((replicate n.cnt.toNat bl0).length)),(13,.slice (some ⟨G,0,none⟩) ((replicate n.cnt.toNat bl0).length) ((replicate n.cnt.toNat bl0).length)),(14,.slice (some ⟨J,0,none⟩) ((replicate n.cnt.toNat (0:Int)).length) ((replicate n.cnt.toNat (0:Int)).length)),(15,.slice (some ⟨B,0,none⟩) 0 0),(17,jI (f:Int)),(18,bv),(19,jI a),(21,jI (bs.getD (a.toNat) 0)),(22,jI (a / 2)),(32,.bool false),(68,.bool false),(77,.bool true),(89,.bool false),(117,.bool true)]) (fun a3 X=>a3.length=n.cnt.toNat∧AbOk n.cnt X) ?_ ?_
 refine aG (cN 1 A (aN A (fT A A A AE) ?_))
 refine bZ A A A A A A (fun bi=>?_) (fun bi=>?_)
 refine aS 3 A (aN A (eY A A A) ?_)
 refine bZ A A A A A A (fun bj=>?_) (fun bj=>?_)
 refine bG 1 A (aR A (cN 2 A (aN A (cV 1 A A A A (aB 3 A)) ?_)))
 refine dS (i:=3) (n':=(K.set ((a / 2).toNat) { K.getD ((a / 2).toNat) bl0 with b:=false }).length) A A A A A A A A AA List.length_set.symm (eF blC (fun r=>.bool r.b) (fun _=>A) _ ({ K.getD ((a / 2).toNat) bl0 with b:=false }) A) A (cP ?_)
 exact eU (K.set ((a / 2).toNat) { K.getD ((a / 2).toNat) bl0 with b:=false }) a2 ⟨by first|omega|(simp only[length_set];omega),a5⟩ (bV A) (cZ A)
 refine bG 1 A (jQ A ?_)
 exact eU K a2 ⟨by first|omega|(simp only[length_set];omega),a5⟩ (bV A) (cZ A)
 refine bG 6 A (jQ A ?_)
 exact eU K a2 ⟨by first|omega|(simp only[length_set];omega),a5⟩ (bV A) (cZ A)
 intro a3 X ar
 obtain⟨c2,a6⟩:=ar
 have bk:=a6.1
 refine kX (α:=List Bl) (β:=List Int) (fun Z M=>[rI9 3 bv bs,rowE 3 1 (.slice (some ⟨B,0,none⟩) 0 0) 0 ([]),rI9 3 (.slice (some ⟨J,0,none⟩) ((replicate n.cnt.toNat (0:Int)).length) ((replicate n.cnt.toNat (0:Int)).length)) M,rS9 4 1 (.slice (some ⟨G,0,none⟩) ((replicate n.cnt.toNat bl0).length) ((replicate n.cnt.toNat bl0).length)) Z blC,rS9 4 1 (.slice (some ⟨Y,0,none⟩) ((replicate n.cnt.toNat bl0).length) ((replicate n.cnt.toNat bl0).length)) us blC,rI9 3 D cs,nB9 b1 n]) (fun Z M=>[(0,.agg #[jI n.ins,n.sv,n.av,n.ov]),(1,lv),(2,jI e),(3,jI h),(4,pI b1),(8,.slice none 0 0),(9,.bool false),(10,D),(11,.slice (some ⟨Y,0,none⟩) ((replicate n.cnt.toNat bl0).length) ((replicate n.cnt.toNat bl0).length)),(13,.slice (some ⟨G,0,none⟩) ((replicate n.cnt.toNat bl0).length) ((replicate n.cnt.toNat bl0).length)),(14,.slice (some ⟨J,0,none⟩) ((replicate n.cnt.toNat (0:Int)).length) ((replicate n.cnt.toNat (0:Int)).length)),(15,.slice (some ⟨B,0,none⟩) 0 0),(17,jI (f:Int)),(18,bv),(19,jI a),(21,jI (bs.getD (a.toNat) 0)),(22,jI (a / 2)),(32,.bool false),(68,.bool false),(77,.bool true),(89,.bool false),(117,.bool true)]) (fun Z M=>Z.length=n.cnt.toNat∧AbOk n.cnt M) ?_ ?_
 refine aG (cN 1 A (aN A (fT A A A AE) ?_))
 refine bZ A A A A A A (fun bl=>?_) (fun bl=>?_)
 refine aS 2 A (bZ A A A A A A (fun bm=>?_) (fun bm=>?_))
 refine bG 1 A (aR A (cN 2 A (aN A (cV 1 A A A A (aB 2 A)) ?_)))
 refine dS (i:=2) (n':=(X.set ((a / 2).toNat) (-1)).length) (xs':=(mI (X.set ((a / 2).toNat) (-1)))) A A A A A A A A AA List.length_set.symm (eP _ _ _) A (cP ?_)
 exact eU a3 (X.set ((a / 2).toNat) (-1)) ⟨by first|omega|(simp only[length_set];omega),(a6.set O)⟩ (bV A) (cZ A)
 refine bG 1 A (jQ A ?_)
 exact eU a3 X ⟨by first|omega|(simp only[length_set];omega),a6⟩ (bV A) (cZ A)
 refine bG 4 A (jQ A ?_)
 exact eU a3 X ⟨by first|omega|(simp only[length_set];omega),a6⟩ (bV A) (cZ A)
 intro Z M au
 obtain⟨c3,a4⟩:=au
 have bn:=a4.1
 refine kX (α:=List Bl) (β:=List Int) (fun a7 a8=>[rI9 3 bv bs,rowE 3 1 (.slice (some ⟨B,0,none⟩) 0 0) 0 ([]),rI9 3 (.slice (some ⟨J,0,none⟩) ((replicate n.cnt.toNat (0:Int)).length) ((replicate n.cnt.toNat (0:Int)).length)) a8,rS9 4 1 (.slice (some ⟨G,0,none⟩) ((replicate n.cnt.toNat bl0).length) ((replicate n.cnt.toNat bl0).length)) a7 blC,rS9 4 1 (.slice (some ⟨Y,0,none⟩) ((replicate n.cnt.toNat bl0).length) ((replicate n.cnt.toNat bl0).length)) us blC,rI9 3 D cs,nB9 b1 n]) (fun a7 a8=>[(0,.agg #[jI n.ins,n.sv,n.av,n.ov]),(1,lv),(2,jI e),(3,jI h),(4,pI b1),(8,.slice none 0 0),(9,.bool false),(10,D),(11,.slice (some ⟨Y,0,none⟩) ((replicate n.cnt.toNat bl0).length) ((replicate n.cnt.toNat bl0).length)),(13,.slice (some ⟨G,0,none⟩) ((replicate n.cnt.toNat bl0).length) ((replicate n.cnt.toNat bl0).length)),(14,.slice (some ⟨J,0,none⟩) ((replicate n.cnt.toNat (0:Int)).length) ((replicate n.cnt.toNat (0:Int)).length)),(15,.slice (some ⟨B,0,none⟩) 0 0),(17,jI (f:Int)),(18,bv),(19,jI a),(21,jI (bs.getD (a.toNat) 0)),(22,jI (a / 2)),(32,.bool false),(68,.bool false),(77,.bool true),(89,.bool false),(117,.bool true)]) (fun a7 a8=>a7.length=n.cnt.toNat∧AbOk n.cnt a8) ?_ ?_
 refine aG (cN 1 A (aN A (fT A A A AE) ?_))
 refine bZ A A A A A A (fun bo=>?_) (fun bo=>?_)
 refine aS 2 A (eK A A A A A A (fun bp=>?_) (fun bp=>?_))
 refine aS 4 A (aN A (eY A A A) ?_)
 refine jY A A A A A A (fun bq=>?_) (fun bq=>?_)
 refine bG 1 A (aR A (cN 3 A ?_))
 refine aN A (gD A A A AH) ?_
 refine aN A (cV 1 A A A A (aB 2 A)) (dS (i:=2) (n':=(M.set ((a / 2).toNat) ((bs.getD (a.toNat) 0) / 2)).length) (xs':=(mI (M.set ((a / 2).toNat) ((bs.getD (a.toNat) 0) / 2)))) A A A A A A A A AA List.length_set.symm (eP _ _ _) A ?_)
 exact cP (eU Z (M.set ((a / 2).toNat) ((bs.getD (a.toNat) 0) / 2)) ⟨by first|omega|(simp only[length_set];omega),(a4.set O)⟩ (bV A) (cZ A))
 refine bG 1 A (jQ A ?_)
 exact eU Z M ⟨by first|omega|(simp only[length_set];omega),a4⟩ (bV A) (cZ A)
 refine bG 7 A (jQ A ?_)
 exact eU Z M ⟨by first|omega|(simp only[length_set];omega),a4⟩ (bV A) (cZ A)
 refine bG 10 A (jQ A ?_)
 exact eU Z M ⟨by first|omega|(simp only[length_set];omega),a4⟩ (bV A) (cZ A)
 intro a7 a8 aw
 obtain⟨c4,ad⟩:=aw
 have br:=ad.1
 refine bP (eS 2 A (cG ?_))
 exact aQ (bs.getD a.toNat 0) a7 a8 ⟨O,O,O,ad⟩ (Hk O (fun h=>b7 a.toNat O h)) (bV A) (cZ A)
 refine dL (aV A ?_)
 refine bW (fM ?_)
 refine aO (eB (cN 1 A (aN A (eY A A A) (eS 1 A ?_))))
 exact aQ (f+1) E U ⟨O,O,a0⟩ O (bV A) (eA [1,0,0,0,0,0] A)
 refine dL (aV A ?_)
 refine bW (fM ?_)
 refine aO (bB (cF 3 A ?_))
 exact cW (eQ (rs:=[.tmp 8,.tmp 9]) (vs:=[.slice (some ⟨B,0,none⟩) 0 0,.bool false]) (post:=[rowE 3 1 (.slice (some ⟨B,0,none⟩) 0 0) 0 ([])]) A ⟨A,A,trivial⟩ A (eA [0] A) ⟨[],_,_,A,A,by simp;omega,fun x hx=>by cases hx⟩)
theorem Dn (n:Nt) (w:World) (M:RdsNt w n) (D:NtOk n) :
   Calls Tryz.prog 129 #[.agg #[.int .i64 n.ins,n.sv,n.av,n.ov]] w (Ret w (fun u_ G=>∃e:List Int,G=[rI9 3 u_ e]∧LbOk n 0 e)):=by
 have a6:=D.i0
 have a7:=D.i1
 have a8:=D.s1
 have a9:=D.a1
 have aa:=D.o1
 have a4:n.cnt=1+n.ins+n.ss.length+n.gs.length:=rfl
 have a5:n.fst=1+n.ins+n.ss.length:=rfl
 refine aY (N:=66) (args:=[.agg #[jI n.ins,n.sv,n.av,n.ov]]) Tryz.func129 A A (dW ?_)
 refine cU A (cE A A) ?_
 intro Z
 refine bG 1 A (kE (aN A (aP (cs:=[jI n.ins,n.sv,n.av,n.ov]) A A A A A (aM 0 A 0 A)) ?_))
 refine cM A (aF A A (fun w E=>aI (gG n w (M.below E.bel) D))) (bG 1 A (aV A (eC (dW (aN A (aP (cs:=[jI n.ins,n.sv,n.av,n.ov]) A A A A A (aM 0 A 0 A)) ?_)))))
 refine cM A (aF A A (fun w E=>aI (dK n w (M.below E.bel) D))) (cH A (fB (z:=jI 0) (s:=1) (bytes:=8) (n:=(replicate n.cnt.toNat (0:Int)).length) (cs:=(mI (replicate n.cnt.toNat (0:Int)))) A z8 A V A A AB AB AF (gW _)) ?_)
 intro U
 refine bG 1 A (kE (aN A (aP (cs:=[jI n.ins,n.sv,n.av,n.ov]) A A A A A (aM 1 A 0 A)) ?_))
 refine cM A (aF A A (fun w E=>aI (dZ n w (M.below E.bel) D))) (bG 1 A (bS ?_))
 refine nX (α:=Nat) (β:=List Int) (fun i e=>[rI9 3 (.slice (some ⟨U,0,none⟩) ((replicate n.cnt.toNat (0:Int)).length) ((replicate n.cnt.toNat (0:Int)).length)) e,nB9 Z n]) (fun i e=>[(0,.agg #[jI n.ins,n.sv,n.av,n.ov]),(1,pI Z),(2,.slice none 0 0),(3,.slice (some ⟨U,0,none⟩) ((replicate n.cnt.toNat (0:Int)).length) ((replicate n.cnt.toNat (0:Int)).length)),(4,jI (n.fst+(i:Int))),(11,.bool false)]) (fun i e=>i≤n.gs.length∧LbOk n 0 e) (fun i e=>n.gs.length-i) 0 _ ⟨Nat.zero_le _,LbOk.start O⟩ (bE [3,2,1,0] _ (sk 4 (congrArg (fun x=>some (Value.int .i64 x)) AI) (aD [11] A)) A) (cZ A) ?_
 intro i e a0
 obtain⟨hi,B⟩:=a0
 have ab:=B.len
 refine aG (aG (cN 1 A (aN A (aP (cs:=[jI n.ins,n.sv,n.av,n.ov]) A A A A A (aM 1 A 0 A)) ?_)))
 refine cM A (aF A A (fun w E=>aI (dK n w (M.below E.bel) D))) (aW A A A A A A (fun h4=>?_) (fun h4=>?_))
 refine dL (aR A (eC (jR (aG ?_))))
 have X:=D.an ((n.fst+(i:Int))-n.fst).toNat O
 unfold LtOk at X
 have ac:=B.at_ ((n.gs.getD (((n.fst+(i:Int))-n.fst).toNat) an0).a / 2).toNat O
 have ad:=B.at_ ((n.gs.getD (((n.fst+(i:Int))-n.fst).toNat) an0).b / 2).toNat O
 refine eI A 9 [0,1,2,3,4,5,6,7,8] (List.take 9 _) (List.drop 9 _) [[],[0],[],[],[3],[2,4],[1,5],[6],[]] [24,25,26,27,28,29,30,31,5] (fun i_ ae J G=>match i_ with|0=>J=.pointer (some ⟨Z,0+2,none⟩)∧G=[]|1=>J=n.av∧G=[]|2=>J=jI (n.fst+(i:Int))∧G=[]|3=>J=.agg #[jI n.ins,n.sv,n.av,n.ov]∧G=[]|4=>J=jI n.fst∧G=[]|5=>J=jI ((n.fst+(i:Int))-n.fst)∧G=[]|6=>J=elP n.av (((n.fst+(i:Int))-n.fst).toNat*2)∧G=[]|7=>J=.agg #[jI ((n.gs.getD (((n.fst+(i:Int))-n.fst).toNat) an0).a),jI ((n.gs.getD (((n.fst+(i:Int))-n.fst).toNat) an0).b)]∧G=[]|8=>IsBox #[jI 0,jI 0] 145 J G|_=>True) (take_append_drop 9 _).symm F F A A ?_ ?_
 refine⟨?_,?_,?_,?_,?_,?_,?_,?_,?_,trivial⟩
 intro vf K h
 exact fG A (aD [1] A) (aK (fY 2 A A A))
 intro vf K h
 have e0:=h 0 V
 exact eH A (aX 24 e0.1 (aA _)) (aK (bJ A A A (bA 1 A A)))
 intro vf K h
 exact fG A (aD [4] A) (aK (aU A))
 intro vf K h
 exact eH A (aD [1] A) (aK (aP (cs:=[jI n.ins,n.sv,n.av,n.ov]) A A A A A (aM 1 A 0 A)))
 intro vf K h
 have e3:=h 3 V
 exact eH A (aX 27 e3.1 (aA _)) (aF A A (fun w E=>aI (dZ n w (M.below E.bel) D)))
 intro vf K h
 have e2:=h 2 V
 have e4:=h 4 V
 exact fG A (aX 26 e2.1 (aX 28 e4.1 (aA _))) (aK (nK A A A))
 intro vf K h
 have e1:=h 1 V
 have e5:=h 5 V
 exact eH A (aX 25 e1.1 (aX 29 e5.1 (aA _))) (aK (cV 2 A A A A (aE M.an)))
 intro vf K h
 have e6:=h 6 V
 exact eH A (aX 30 e6.1 (aA _)) (aK (cO (us:=[jI ((n.gs.getD (((n.fst+(i:Int))-n.fst).toNat) an0).a),jI ((n.gs.getD (((n.fst+(i:Int))-n.fst).toNat) an0).b)]) A A A A (aE M.an) O A (dQ anC 2 (fun _=>A) n.gs an0 (show((n.fst+(i:Int))-n.fst).toNat<_ by omega) A)))
 intro vf K h
 exact eH A (aA _) (bY (z:=.agg #[jI 0,jI 0]) A A)
 intro vf K h
 have e7:=h 7 V
 obtain⟨b5,Y,a2⟩:=h 8 V
 have q0:=h 0 V
 have q1:=h 1 V
 have q2:=h 2 V
 have q3:=h 3 V
 have q4:=h 4 V
 have q5:=h 5 V
 have q6:=h 6 V
 have q7:=h 7 V
 refine cL (bE [4,3,2,1,0] _ (aX 5 Y (sk 11 A (sk 21 A (aX 31 e7.1 (aA _))))) A) (by simp only[a2,Y,q0.2,q1.2,q2.2,q3.2,q4.2,q5.2,q6.2,q7.2,fS]<;>rfl) ?_
 simp only[drop_succ_cons,drop_zero]
 refine cA (cs':=#[jI ((n.gs.getD (((n.fst+(i:Int))-n.fst).toNat) an0).a),jI ((n.gs.getD (((n.fst+(i:Int))-n.fst).toNat) an0).b)]) (i:=0) (off:=0) (us:=[jI ((n.gs.getD (((n.fst+(i:Int))-n.fst).toNat) an0).a),jI ((n.gs.getD (((n.fst+(i:Int))-n.fst).toNat) an0).b)]) A A A A A A A (aC A (aC A bH)) A A A (dL (aG ?_))
 refine bL 13 [[],[],[1],[2],[0,3],[4],[],[],[7],[8],[6,9],[10],[5,11]] [32,33,34,35,36,37,38,39,40,41,42,43,44] [.slice (some ⟨U,0,none⟩) ((replicate n.cnt.toNat (0:Int)).length) ((replicate n.cnt.toNat (0:Int)).length),.pointer (some ⟨b5,0+0,none⟩),jI ((n.gs.getD (((n.fst+(i:Int))-n.fst).toNat) an0).a),jI (((n.gs.getD (((n.fst+(i:Int))-n.fst).toNat) an0).a) / 2),elP (.slice (some ⟨U,0,none⟩) ((replicate n.cnt.toNat (0:Int)).length) ((replicate n.cnt.toNat (0:Int)).length)) ((((n.gs.getD (((n.fst+(i:Int))-n.fst).toNat) an0).a) / 2).toNat*1),jI (e.getD ((((n.gs.getD (((n.fst+(i:Int))-n.fst).toNat) an0).a) / 2).toNat) 0),.slice (some ⟨U,0,none⟩) ((replicate n.cnt.toNat (0:Int)).length) ((replicate n.cnt.toNat (0:Int)).length),.pointer (some ⟨b5,0+1,none⟩),jI ((n.gs.getD (((n.fst+(i:Int))-n.fst).toNat) an0).b),jI (((n.gs.getD (((n.fst+(i:Int))-n.fst).toNat) an0).b) / 2),elP (.slice (some ⟨U,0,none⟩) ((replicate n.cnt.toNat (0:Int)).length) ((replicate n.cnt.toNat (0:Int)).length)) ((((n.gs.getD (((n.fst+(i:Int))-n.fst).toNat) an0).b) / 2).toNat*1),jI (e.getD ((((n.gs.getD (((n.fst+(i:Int))-n.fst).toNat) an0).b) / 2).toNat) 0),jI (if e.getD ((((n.gs.getD (((n.fst+(i:Int))-n.fst).toNat) an0).a) / 2).toNat) 0<e.getD ((((n.gs.getD (((n.fst+(i:Int))-n.fst).toNat) an0).b) / 2).toNat) 0 then e.getD ((((n.gs.getD (((n.fst+(i:Int))-n.fst).toNat) an0).b) / 2).toNat) 0 else e.getD ((((n.gs.getD (((n.fst+(i:Int))-n.fst).toNat) an0).a) / 2).toNat) 0)] F A ?_ ?_
 exact⟨aJ,aJ,aJ,fL A (gD A A A AH) A,aJ,aJ,aJ,aJ,aJ,fL A (gD A A A AH) A,aJ,aJ,fL A (Hf A A A) A,trivial⟩
 simp only[drop_succ_cons,drop_zero]
 refine bG 1 A (dW ?_)
 obtain⟨p,hp⟩:∃x,(if e.getD ((((n.gs.getD (((n.fst+(i:Int))-n.fst).toNat) an0).a) / 2).toNat) 0<e.getD ((((n.gs.getD (((n.fst+(i:Int))-n.fst).toNat) an0).b) / 2).toNat) 0 then e.getD ((((n.gs.getD (((n.fst+(i:Int))-n.fst).toNat) an0).b) / 2).toNat) 0 else e.getD ((((n.gs.getD (((n.fst+(i:Int))-n.fst).toNat) an0).a) / 2).toNat) 0)=x:=⟨_,rfl⟩
 rw[hp]
 have af:0≤p∧p<n.fst+(i:Int):=by rw[←hp];split<;>omega
 refine aS 3 A (aN A (eY A A A) (aN A (cV 1 A A A A (aB 1 A)) ?_))
 refine dS (i:=1) (n':=(e.set ((n.fst+(i:Int)).toNat) (p+1)).length) (xs':=(mI (e.set ((n.fst+(i:Int)).toNat) (p+1)))) A A A A A A A A AA List.length_set.symm (eP _ _ _) A (dL (aG (cN 1 A ?_)))
 refine fJ A A A A A A (fun h6=>?_) (fun h6=>?_)
 refine dL (aR A (dW (aN A (aP (cs:=[jI n.ins,n.sv,n.av,n.ov]) A A A A A (aM 2 A 0 A)) (aS 3 A ?_))))
 refine fF A A A (aF A A (fun w E=>uQ n (e.set ((n.fst+(i:Int)).toNat) (p+1)) _ (n.fst+(i:Int)) p w (M.below E.bel) D ((aB 1 A) w E) AA O)) ?_
 intro v7 p8 R9
 obtain⟨xs,cv,ag,rfl,rfl,ah,ai⟩:=R9
 refine aS 3 A (bD (fun a3=>?_) (fun a3=>?_))
 refine bG 2 A (cF 1 A (aR A (cN 3 A (aN A (cV 1 A A A A (aB 2 A) O AA) ?_))))
 refine dS (i:=2) (n':=((e.set ((n.fst+(i:Int)).toNat) (p+1)).set ((n.fst+(i:Int)).toNat) p).length) (xs':=(((e.set ((n.fst+(i:Int)).toNat) (p+1)).set ((n.fst+(i:Int)).toNat) p).map (Value.int .i64))) A A A A A A A A AA List.length_set.symm (eP _ _ _) A (cP (eB (cN 1 A (aN A (eY A A A) (eS 1 A ?_)))))
 exact bO (i+1) ((e.set ((n.fst+(i:Int)).toNat) (p+1)).set ((n.fst+(i:Int)).toNat) p) ⟨O,(B.set (j:=0) O).set (j:=0) O⟩ O (bE [3,2,1,0] _ (sk 4 (congrArg (fun x=>some (Value.int .i64 x)) O) (aD [11] A)) A) (eA [2,0] A)
 refine bG 2 A (cF 1 A (jQ A (eB ?_)))
 refine cN 1 A (aN A (eY A A A) (eS 1 A ?_))
 exact bO (i+1) (e.set ((n.fst+(i:Int)).toNat) (p+1)) ⟨O,B.set (j:=0) O⟩ O (bE [3,2,1,0] _ (sk 4 (congrArg (fun x=>some (Value.int .i64 x)) O) (aD [11] A)) A) (eA [2,0] A)
 refine dL (jQ A (eB (cN 1 A (aN A (eY A A A) (eS 1 A ?_)))))
 exact bO (i+1) (e.set ((n.fst+(i:Int)).toNat) (p+1)) ⟨O,B.set (j:=0) O⟩ O (bE [3,2,1,0] _ (sk 4 (congrArg (fun x=>some (Value.int .i64 x)) O) (aD [11] A)) A) (eA [1,0] A)
 refine dL (aV A ?_)
 refine bW (fM ?_)
 refine aO (bB (cF 2 A ?_))
 exact cW (bM (post:=[rI9 3 (.slice (some ⟨U,0,none⟩) ((replicate n.cnt.toNat (0:Int)).length) ((replicate n.cnt.toNat (0:Int)).length)) e]) A A (eA [0] A) ⟨_,A,B⟩)
theorem sD (n:Nt) (w:World) (hr:RdsNt w n) (Z:NtOk n) :
   Calls Tryz.prog 111 #[.agg #[.int .i64 n.ins,n.sv,n.av,n.ov]] w (Ret w (fun u_ J=>∃(ps:List HP) (rs:List CRow),J=[rS9 26 1 u_ rs crowC,bigE ps]∧(∀w,(bigE ps).holds w→RdsAll w rs)∧rs.length=n.gs.length∧∀r∈rs,r.xs.length≤400)):=by
 have af:=Z.i0
 have ag:=Z.i1
 have ah:=Z.s1
 have ai:=Z.a1
 have aj:=Z.o1
 have ad:n.cnt=1+n.ins+n.ss.length+n.gs.length:=rfl
 have ae:n.fst=1+n.ins+n.ss.length:=rfl
 refine aY (N:=39) (args:=[.agg #[jI n.ins,n.sv,n.av,n.ov]]) Tryz.func111 A A (dW ?_)
 refine cU A (cE A A) fun b1=>go ?_
 refine cH A (bU (s:=1) A Tryz.underlying57 A) fun g2=>go ?_
 refine cM A (aF A A (fun w M=>aI (gG n w (hr.below M.bel) Z))) (go ?_)
 refine fF A A A (aF A A (fun w M=>Dn n w (hr.below M.bel) Z)) fun v3 p4 R5=>?_
 obtain⟨ls,rfl,a8⟩:=R5
 have ak:=a8.len
 refine go ?_
 refine cM A (aF A A (fun w M=>aI (dZ n w (hr.below M.bel) Z))) (go ?_)
 refine fK _ hF ?_
 refine uZ (α:=Nat) (β:=List CRow) (γ:=Value) (δ:=List HP) (fun i rs ov ps=>[bigE ps,rI9 3 v3 ls,rS9 26 1 ov rs crowC,nB9 b1 n]) (fun i rs ov ps=>[(0,.agg #[jI n.ins,n.sv,n.av,n.ov]),(1,pI b1),(2,.slice none 0 0),(3,ov),(4,v3),(5,jI (n.fst+(i:Int))),(11,.bool false)]) (fun i rs ov ps=>i≤n.gs.length∧rs.length=i∧(∀r∈rs,r.xs.length≤400)∧∀w,(bigE ps).holds w→RdsAll w rs) (fun i rs ov ps=>n.gs.length-i) 0 [] _ _ ⟨Nat.zero_le _,A,(fun r hr=>by cases hr),fun w _=>RdsAll.nil w⟩ (bE [4,3,2,1,0] _ (sk 5 (congrArg (fun x=>some (Value.int .i64 x)) AI) (aD [11] A)) A) (cZ A) fun i rs ov ps a9=>go ?_
 obtain⟨hi,al,a3,a4⟩:=a9
 refine cM A (aF A A (fun w M=>aI (dK n w (hr.below M.bel) Z))) (aW A A A A A A (fun h7=>go ?_) (fun h7=>go ?_))
 refine eI A 12 [0,1,2,3,4,5,6,7,8,9,10,11] (List.take 12 _) (List.drop 12 _) [[],[],[],[],[],[3,4],[5],[0,1,2,6],[7],[7,8],[7,8],[7,9]] [24,25,26,27,28,29,30,31,23,32,33,6] (fun i_ Y U J=>match i_ with|0=>U=.agg #[jI n.ins,n.sv,n.av,n.ov]∧J=[]|1=>U=v3∧J=[]|2=>U=jI (n.fst+(i:Int))∧J=[]|3=>U=v3∧J=[]|4=>U=jI (n.fst+(i:Int))∧J=[]|5=>U=elP v3 ((n.fst+(i:Int)).toNat*1)∧J=[]|6=>U=jI (ls.getD ((n.fst+(i:Int)).toNat) 0)∧J=[]|7=>(fun u_ J=>∃(xs:List Int) (X:Value) (K:Bool),u_=.tuple #[X,.bool K]∧J=[rI9 3 X xs]∧(xs.length:Int)≤n.cnt∧∀x∈xs,0≤x∧x<n.cnt) U J|8=>U=.tuple #[(tFstH (gV9 Y 0)),.bool (tSndB (gV9 Y 0))]∧J=[]|9=>U=(tFstH (gV9 Y 0))∧J=[]|10=>U=.bool (tSndB (gV9 Y 0))∧J=[]|11=>U=(tFstH (gV9 Y 0))∧J=[]|_=>True) (take_append_drop 12 _).symm F F A A ?_ ?_
 refine⟨?_,?_,?_,?_,?_,?_,?_,?_,?_,?_,?_,?_,trivial⟩
 intro vf G B
 exact eH A (aD [1] A) (aK (aP (cs:=[jI n.ins,n.sv,n.av,n.ov]) A A A A A (aM 3 A 0 A)))
 intro vf G B
 exact fG A (aD [4] A) (aK (aU A))
 intro vf G B
 exact fG A (aD [5] A) (aK (aU A))
 intro vf G B
 exact fG A (aD [4] A) (aK (aU A))
 intro vf G B
 exact fG A (aD [5] A) (aK (aU A))
 intro vf G B
 have e3:=B 3 V
 have e4:=B 4 V
 exact eH A (aX 27 e3.1 (aX 28 e4.1 (aA _))) (aK (cV 1 A A A A (aB 1 A)))
 intro vf G B
 have e5:=B 5 V
 exact eH A (aX 29 e5.1 (aA _)) (aK (lP A A A (aB 1 A)))
 intro vf G B
 have e0:=B 0 V
 have e1:=B 1 V
 have e2:=B 2 V
 have e6:=B 6 V
 exact eH A (aX 24 e0.1 (aX 25 e1.1 (aX 26 e2.1 (aX 30 e6.1 (aA _))))) (aF A A (fun w M=>uQ n ls _ (n.fst+(i:Int)) (ls.getD ((n.fst+(i:Int)).toNat) 0) w (hr.below M.bel) Z ((aB 1 A) w M) AA O))
 intro vf G B
 obtain⟨v8,e⟩:=dU (vf 7)
 obtain⟨p9,D⟩:=dU (G 7)
 have E:=B 7 V
 rw[e,D] at E
 obtain⟨xs,X,K,rfl,rfl,a0,a2⟩:=E
 refine Or.inl ⟨A,?_⟩
 exact bQ (aX 31 e (aA _)) (by simp only[D,e,fS]<;>rfl) (dM (aK (aU A)) (fun _ _ h=>⟨h.1.trans (by show _=(.tuple #[(tFstH (vf 7)),.bool (tSndB (vf 7))]:Value);first|(rw[e];done)|(rw[e];rfl)),h.2⟩))
 intro vf G B
 obtain⟨v8,e⟩:=dU (vf 7)
 obtain⟨p9,D⟩:=dU (G 7)
 have E:=B 7 V
 rw[e,D] at E
 obtain⟨xs,X,K,rfl,rfl,a0,a2⟩:=E
 have e8:(vf 8)=.tuple #[(tFstH (vf 7)),.bool (tSndB (vf 7))]∧(G 8)=[]:=B 8 V
 rw[e] at e8
 refine Or.inl ⟨A,?_⟩
 exact bQ (aX 23 e8.1 (aA _)) (by simp only[D,e,e8.2,fS]<;>rfl) (dM (aK (aU A)) (fun _ _ h=>⟨h.1.trans (by show _=((tFstH (vf 7)):Value);first|(rw[e];done)|(rw[e];rfl)),h.2⟩))
 intro vf G B
 obtain⟨v8,e⟩:=dU (vf 7)
 obtain⟨p9,D⟩:=dU (G 7)
 have E:=B 7 V
 rw[e,D] at E
 obtain⟨xs,X,K,rfl,rfl,a0,a2⟩:=E
 have e8:(vf 8)=.tuple #[(tFstH (vf 7)),.bool (tSndB (vf 7))]∧(G 8)=[]:=B 8 V
 rw[e] at e8
 refine Or.inl ⟨A,?_⟩
 exact bQ (aX 23 e8.1 (aA _)) (by simp only[D,e,e8.2,fS]<;>rfl) (dM (aK (aU A)) (fun _ _ h=>⟨h.1.trans (by show _=(.bool (tSndB (vf 7)):Value);first|(rw[e];done)|(rw[e];rfl)),h.2⟩))
 intro vf G B
 obtain⟨v8,e⟩:=dU (vf 7)
 obtain⟨p9,D⟩:=dU (G 7)
 have E:=B 7 V
 rw[e,D] at E
 obtain⟨xs,X,K,rfl,rfl,a0,a2⟩:=E
 have e9:(vf 9)=(tFstH (vf 7))∧(G 9)=[]:=B 9 V
 rw[e] at e9
 refine Or.inl ⟨A,?_⟩
 exact bQ (aX 32 e9.1 (aA _)) (by simp only[D,e,e9.2,fS]<;>rfl) (dM (aK (aU A)) (fun _ _ h=>⟨h.1.trans (by show _=((tFstH (vf 7)):Value);first|(rw[e];done)|(rw[e];rfl)),h.2⟩))
 intro vf G B
 obtain⟨v8,e⟩:=dU (vf 7)
 obtain⟨p9,D⟩:=dU (G 7)
 have E:=B 7 V
 rw[e,D] at E
 obtain⟨xs,X,K,rfl,rfl,a0,a2⟩:=E
 have a5:(vf 10)=.bool (tSndB (vf 7))∧(G 10)=[]:=B 10 V
 rw[e] at a5
 have a6:(vf 11)=(tFstH (vf 7))∧(G 11)=[]:=B 11 V
 rw[e] at a6
 have q0:=B 0 V
 have q1:=B 1 V
 have q2:=B 2 V
 have q3:=B 3 V
 have q4:=B 4 V
 have q5:=B 5 V
 have q6:=B 6 V
 have q8:=B 8 V
 have q9:=B 9 V
 have aa:=B 10 V
 have ab:=B 11 V
 refine cL (bE [5,4,3,2,1,0] _ (aX 6 a6.1 (sk 11 A (sk 20 A (aX 33 a5.1 (aA _))))) A) (by simp only[D,e,q0.2,q1.2,q2.2,q3.2,q4.2,q5.2,q6.2,q8.2,q9.2,aa.2,ab.2,fS]<;>rfl) ?_
 simp only[drop_succ_cons,drop_zero]
 refine go ?_
 refine cH A (jC A Tryz.underlying57 F A (fun w M=>(aB 0 A w M).one)) fun am=>?_
 refine eE (i:=1) A (fun a7=>?_)
 refine bT (i:=4) (z:=.slice none 0 0) (bytes:=24) A A A A Tryz.underlying57 F A A A A (aB 0 A) (aC a7 bH) AC (bK rs [(CRow.mk X xs)]) (dP crowC rs (CRow.mk X xs) _ A) (fun _=>A) fun ac=>go ?_
 refine bN 6 [5,4,3,1,2] A A V ?_
 refine dN 2 A ?_
 exact dH (i+1) (rs++[(CRow.mk X xs)]) ac [bigE ps,rI9 3 X xs] ⟨O,by rw[length_append,length_singleton];omega,fun r hr=>(List.mem_append.1 hr).elim (a3 r) (fun h=>by rw[mem_singleton] at h;subst h;show xs.length≤400;omega),fun w hw=>RdsAll.cons (u:=CRow.mk X xs) (a4 w (bF hw eG)) (cI (bF hw (fW eG))) (fun q hq=>(List.mem_append.1 hq).elim .inr (fun h=>.inl (List.mem_singleton.1 h)))⟩ O (bE [4,3,2,1,0] _ (sk 5 (congrArg (fun x=>some (Value.int .i64 x)) O) (aD [11] rfl)) rfl) (cZ rfl)
 refine bN 4 [0,2] A A V ?_
 exact bM (post:=[rS9 26 1 ov rs crowC,bigE ps]) A A (.refl _) ⟨_,rs,A,a4,O,a3⟩
noncomputable def pBe (p:Prop):Bool:=@decide p (Classical.propDecidable p)
theorem qH {p:Prop}(h:p):pBe p=true:=@decide_eq_true p (Classical.propDecidable p) h
theorem pL {p:Prop}(h:¬p):pBe p=false:=@decide_eq_false p (Classical.propDecidable p) h
theorem Hr {p:Prop}(h:pBe p=true):p:=@of_decide_eq_true p (Classical.propDecidable p) h
structure CGrp where
  v:Value
  rs:List CRow
abbrev cgrp0:CGrp:=⟨.slice none 0 0,[]⟩
def RdsGrps (w:World) (cs:List CGrp):Prop:=∀c∈cs,RdsCl w c.v c.rs
structure GrpOk (rs:List CRow):Prop where
  pos:1≤rs.length
  len:rs.length≤8
  four:∀r∈rs,r.xs.length≤4
def GrpsOk (cs:List CGrp):Prop:=∀c∈cs,GrpOk c.rs
theorem rX {xs:List Int}{x:Int}:hasB xs x=true↔x∈xs:=by unfold hasB;exact List.contains_iff_mem
theorem Ax {xs:List Int}{x:Int}{j:Nat}(e:j<xs.length) (h:xs.getD j 0=x):hasB xs x=true:=rX.2 (by rw[←h];exact dJ e)
theorem Ik {xs:List Int}{x:Int}(h:∀i,i<xs.length→xs.getD i 0≠x):hasB xs x=false:=by
  cases hb:hasB xs x with
  | false=>rfl
  | true=>
    obtain⟨i,B,e⟩:=List.mem_iff_getElem.1 (rX.1 hb)
    have:=h i B
    rw[getD_eq_getElem?_getD,List.getElem?_eq_getElem B] at this
    exact absurd e this
theorem gU (xs:List Int) (x:Int) (v:Value) (w:World) (E:RdsW w v 1 xs.length (xs.map (Value.int .i64))) (G:xs.length≤1000000000) :
   Calls Tryz.prog 64 #[v,.int .i64 x] w (Ans w (.bool (hasB xs x))):=by
 refine aY (N:=18) (args:=[v,jI x]) Tryz.func64 A A (cF 1 A (aG (cF 1 A (go ?_))))
 refine lC (α:=Nat) [0,1,4] A (fun j=>[]) (fun j=>[(5,jI (j:Int))]) (fun j=>j≤xs.length∧∀i,i<j→xs.getD i 0≠x) (fun j=>xs.length-j) 0 ⟨O,fun i h=>absurd h O⟩ (bV A) (.slnil) fun j B=>go ?_
 obtain⟨J,e⟩:=B
 refine aW A A A A A A (fun K=>go ?_) (fun K=>go ?_)
 refine aN A (cV 1 A A A A (aE E)) (aN A (lD A A A (aE E)) (go ?_))
 refine bZ A A A A A A (fun M=>go ?_) (fun M=>go ?_)
 exact aT A A (congrArg _ (Ax (j:=j) O I).symm)
 exact dR (j+1) ⟨O,fun i h=>by by_cases D:i=j;(subst D;assumption);exact e i O⟩ O (bV A) (.slnil)
 exact aT A A (congrArg _ (Ik (fun i h=>e i O)).symm)
def CntB (zs:List Int) (T:Nat):Prop:=∀q,0≤zs.getD q 0∧zs.getD q 0≤(T:Int)
theorem nZ (n T:Nat):CntB (replicate n (0:Int)) T:=fun q=>by
  have:(replicate n (0:Int)).getD q 0=0:=by
    rw[getD_eq_getElem?_getD]
    by_cases h:q<n
    · rw[List.getElem?_eq_getElem (by rw[length_replicate];exact h),Option.getD_some,List.getElem_replicate]
    · rw[List.getElem?_eq_none AF];rfl
  rw[this];omega
theorem dD {zs:List Int}{T U:Nat}(h:CntB zs T) (e:T≤U):CntB zs U:=fun q=>by have:=h q;omega
theorem Fy (zs:List Int) (j q:Nat) (v:Int):(zs.set j v).getD q 0=if j=q∧j<zs.length then v else zs.getD q 0:=by
  rw[getD_eq_getElem?_getD,getD_eq_getElem?_getD,List.getElem?_set]
  by_cases h:j=q
  · subst h
    by_cases h2:j<zs.length
    · simp[h2]
    · simp[h2]
  · simp[h]
theorem eL {zs:List Int}{T j:Nat}(h:CntB zs T):CntB (zs.set j (zs.getD j 0+1)) (T+1):=fun q=>by
  rw[Fy]
  split
  · have:=h j;omega
  · have:=h q;omega
def incT (zs xs:List Int):Nat→List Int
  | 0=>zs
  | k+1=>(incT zs xs k).set (xs.getD k 0).toNat ((incT zs xs k).getD (xs.getD k 0).toNat 0+1)
def usA (n:Ln):Nat→List Int
  | 0=>replicate n.cnt.toNat 0
  | i+1=>incT (usA n i) (n.ls.getD i lt0).xs (n.ls.getD i lt0).xs.length
def usB (n:Ln):Nat→List Int
  | 0=>usA n n.ls.length
  | j+1=>incT (usB n j) (n.ss.getD j sq0).xs (n.ss.getD j sq0).xs.length
def usK (n:Ln):List Int:=incT (usB n n.ss.length) n.os n.os.length
theorem qZ (zs xs:List Int):∀k,(incT zs xs k).length=zs.length
  | 0=>rfl
  | k+1=>by show(List.set _ _ _).length=_;rw[length_set];exact qZ zs xs k
theorem Dr (n:Ln):∀i,(usA n i).length=n.cnt.toNat
  | 0=>length_replicate
  | i+1=>by show(incT _ _ _).length=_;rw[qZ];exact Dr n i
theorem Dq (n:Ln):∀i,(usB n i).length=n.cnt.toNat
  | 0=>Dr n _
  | i+1=>by show(incT _ _ _).length=_;rw[qZ];exact Dq n i
theorem Dp (n:Ln):(usK n).length=n.cnt.toNat:=by unfold usK;rw[qZ,Dq]
structure Le where
  u:Int
  f:Int
abbrev le0:Le:=⟨0,0⟩
def leC (e:Le):List Value:=[.int .i64 e.u,.int .i64 e.f]
def LeIn (n:Ln) (e:Le):Prop:=(-1≤e.u∧e.u<n.ls.length)∧(-1≤e.f∧e.f<n.ss.length)∧(0≤e.u∨0≤e.f)
def LeP (n:Ln) (e:Le):Prop:=LeIn n e∧(0≤e.f→(n.ss.getD e.f.toNat sq0).kd=0)∧(0≤e.u→0≤e.f→(n.ss.getD e.f.toNat sq0).xs.getD 0 0=n.fst+e.u∧(usK n).getD (n.fst+e.u).toNat 0=1)
def outK (n:Ln) (e:Le):Int:=if 0≤e.f then 1+n.ins+e.f else n.fst+e.u
structure Bk where
  kd:Int
  it:Int
  bv:Value
  es:List Le
abbrev bk0:Bk:=⟨0,0,.slice none 0 0,[]⟩
def bkC (b:Bk):List Value:=[.int .i64 b.kd,.int .i64 b.it,b.bv]
structure RdsBk (w:World) (v:Value) (bs:List Bk):Prop where
  row:RdsW w v 3 bs.length (bs.flatMap bkC)
  es:∀b∈bs,RdsW w b.bv 2 b.es.length (b.es.flatMap leC)
theorem RdsBk.below {w B:World}{v:Value}{D:List Bk}(h:RdsBk w v D) (E:Below w.heap.size w B):RdsBk B v D:=⟨h.row.below E,fun b e=>(h.es b e).below E⟩
theorem RdsBk.at {w:World}{v:Value}{e:List Bk}(h:RdsBk w v e) {k:Nat}(B:k<e.length):RdsW w (e.getD k bk0).bv 2 (e.getD k bk0).es.length ((e.getD k bk0).es.flatMap leC):=h.es _ (dJ B)
def setA (ys acc:List Int) (x:Int):List Int:=if (0<x∧hasB ys x=false)∧(acc.length=0∨acc.getD ((acc.length:Int)-1).toNat 0≠x) then acc++[x] else acc
def setL (xs ys:List Int):Nat→List Int
  | 0=>[]
  | i+1=>setA ys (setL xs ys i) ((sortR xs).getD i 0)
def setK (xs ys:List Int):List Int:=setL xs ys xs.length
theorem Du {xs e zs:List Int}{i:Nat}(h:zs=setL xs e i) (B:0<(sortR xs).getD i 0) (D:hasB e ((sortR xs).getD i 0)=false) (E:zs.length=0∨zs.getD ((zs.length:Int)-1).toNat 0≠(sortR xs).getD i 0):zs++[(sortR xs).getD i 0]=setL xs e (i+1):=by
  subst h
  show _=setA e _ _
  unfold setA;rw[if_pos ⟨⟨B,D⟩,E⟩]
theorem Cf {xs ys zs:List Int}{i:Nat}(hz:zs=setL xs ys i) (h:(sortR xs).getD i 0≤0∨hasB ys ((sortR xs).getD i 0)=true∨(zs.length≠0∧zs.getD ((zs.length:Int)-1).toNat 0=(sortR xs).getD i 0)):zs=setL xs ys (i+1):=by
  subst hz
  show _=setA ys _ _
  unfold setA;rw[if_neg ?_]
  rintro ⟨⟨a,b⟩,c⟩
  rcases h with h|h|⟨h,h'⟩
  · omega
  · rw[h] at b;cases b
  · rcases c with c | c
    · exact h c
    · exact c h'
theorem xR (xs e:List Int):∀i,(setL xs e i).length≤i
  | 0=>Nat.le_refl _
  | i+1=>by
    have:=xR xs e i
    show(setA e _ _).length≤_
    unfold setA;split
    · rw[length_append,length_singleton];omega
    · omega
theorem xS (xs e:List Int):(setK xs e).length≤xs.length:=xR xs e _
def insK (n:Ln) (e:Le):List Int:=if 0≤e.u then setK (n.ls.getD e.u.toNat lt0).xs [] else setK (n.ss.getD e.f.toNat sq0).xs []
theorem tJ {n:Ln}(hok:LnOk n) {e:Le}(he:LeIn n e):(insK n e).length≤4:=by
  obtain⟨⟨a,b⟩,⟨c,d⟩,g⟩:=he
  unfold insK;split
  · have h1 := (hok.lt e.u.toNat (by omega)).1.1
    have h2:=xS (n.ls.getD e.u.toNat lt0).xs []
    omega
  · have h1 := (hok.sq e.f.toNat (by omega)).1.len
    have h2:=xS (n.ss.getD e.f.toNat sq0).xs []
    omega
def insL (n:Ln) (es:List Le):Nat→List Int
  | 0=>[]
  | k+1=>insL n es k++insK n (es.getD k le0)
def outL (n:Ln) (es:List Le):Nat→List Int
  | 0=>[]
  | k+1=>outL n es k++[outK n (es.getD k le0)]
theorem qK (n:Ln) (es:List Le):∀k,(outL n es k).length=k
  | 0=>rfl
  | k+1=>by unfold outL;rw[length_append,qK n es k];rfl
def pinsK (n:Ln) (es:List Le):List Int:=setK (insL n es es.length) (outL n es es.length)
theorem Ei {n:Ln}(e:LnOk n) {es:List Le}(h:∀k,k<es.length→LeIn n (es.getD k le0)):∀k,k≤es.length→(insL n es k).length≤4*k
  | 0,_=>Nat.le_refl _
  | k+1,hk=>by
    have B:=Ei e h k O
    have D:=tJ e (h k O)
    unfold insL;rw[length_append];omega
def BkIn (n:Ln) (b:Bk):Prop:=(b.kd=0∧0≤b.it∧b.it<n.ins)∨(b.kd=1∧0≤b.it∧b.it<n.os.length)∨(b.kd=2∧0≤b.it∧b.it<n.ss.length)∨(b.kd=3∧∀k,k<b.es.length→LeP n (b.es.getD k le0))
def BlP (n:Ln) (b:Bk):Prop:=BkIn n b∧(b.kd=3→b.it=0∧(1≤b.es.length∧b.es.length≤2)∧(pinsK n b.es).length≤5)∧(b.kd≠3→b.es.length=0∧(b.kd=2→(n.ss.getD b.it.toNat sq0).kd=1))
open Classical in
noncomputable def pinN (n:Ln) (b:Bk):List Int:=if ¬BkIn n b then [] else if b.kd=0 then [] else if b.kd=1 then [n.os.getD b.it.toNat 0] else if b.kd=2 then (n.ss.getD b.it.toNat sq0).xs else pinsK n b.es
open Classical in
noncomputable def outNd (n:Ln) (b:Bk):List Int:=if ¬BkIn n b then [] else if b.kd=0 then [1+b.it] else if b.kd=1 then [] else if b.kd=2 then [1+n.ins+b.it] else outL n b.es b.es.length
theorem oR {n:Ln}{u f:Int}(h:(-1≤u∧u<n.ls.length)∧(-1≤f∧f<n.ss.length)∧(0≤u∨0≤f)):LeIn n ⟨u,f⟩:=h
theorem BlP.rng {n:Ln}{b:Bk}(h:BlP n b):(b.kd=0→0≤b.it∧b.it<n.ins)∧(b.kd=1→0≤b.it∧b.it<n.os.length)∧(b.kd=2→0≤b.it∧b.it<n.ss.length)∧b.es.length≤2∧∀k,k<b.es.length→LeIn n (b.es.getD k le0):=by
  obtain⟨U,X,M⟩:=h
  have E:b.es.length≤2:=by
    by_cases e:b.kd=3
    · exact(X e).2.1.2
    · have:=(M e).1;omega
  have J:b.kd≠3→b.es.length=0:=fun e=>(M e).1
  rcases U with⟨K,B,D⟩|⟨K,B,D⟩|⟨K,B,D⟩|⟨K,B⟩
  · exact⟨fun _=>⟨B,D⟩,O,O,E,fun k G=>by have:=J O;omega⟩
  · exact⟨O,fun _=>⟨B,D⟩,O,E,fun k G=>by have:=J O;omega⟩
  · exact⟨O,O,fun _=>⟨B,D⟩,E,fun k G=>by have:=J O;omega⟩
  · exact⟨O,O,O,E,fun k G=>(B k G).1⟩
def comL (x y:List Int):Nat→Int
  | 0=>0
  | i+1=>comL x y i+if hasB y (x.getD i 0) then 1 else 0
theorem Bg (x y:List Int):∀i,0≤comL x y i∧comL x y i≤i
  | 0=>⟨Int.le_refl _,Int.le_refl _⟩
  | i+1=>by have:=Bg x y i;unfold comL;split<;>omega
def comK (n:Ln) (a b:Le):Int:=comL (setK (insK n a++[outK n a]) []) (insK n b++[outK n b]) (setK (insK n a++[outK n a]) []).length
def LesIn (n:Ln) (es:List Le):Prop:=∀k,k<es.length→LeIn n (es.getD k le0)
theorem LesIn.nil (n:Ln):LesIn n []:=fun k e=>absurd e AI
theorem LesIn.app {n:Ln}{es:List Le}{e:Le}(h:LesIn n es) (D:LeIn n e):LesIn n (es++[e]):=fun k E=>by
  rw[length_append,length_singleton] at E
  by_cases B:k<es.length
  · rw[gM B];exact h k B
  · rw[hC O,show k-es.length=0 by omega];exact D
def BsOk (bs:List Bk):Prop:=∀b∈bs,(0≤b.kd∧b.kd≤3)∧b.es.length≤2
def BsNil (bs:List Bk):Prop:=∀b∈bs,(0≤b.kd∧b.kd≤3)∧b.es=[]∧b.bv=.slice none 0 0
def EsR (w:World) (bs:List Bk):Prop:=∀b∈bs,RdsW w b.bv 2 b.es.length (b.es.flatMap leC)
theorem BsNil.nil:BsNil []:=fun b e=>by cases e
theorem BsNil.app {B:List Bk}(h:BsNil B) {k i:Int}(D:0≤k∧k≤3):BsNil (B++[Bk.mk k i (.slice none 0 0) []]):=fun b e=>by
  rcases List.mem_append.1 e with e|e
  · exact h b e
  · rw[mem_singleton] at e;subst e;exact⟨D,rfl,rfl⟩
theorem BsNil.ok {e:List Bk}(h:BsNil e):BsOk e:=fun b B=>by obtain⟨D,E, -⟩:=h b B;exact⟨D,by rw[E];decide⟩
theorem BsNil.es {e:List Bk}(h:BsNil e) (w:World):EsR w e:=fun b B=>by
  obtain⟨-,D,E⟩:=h b B
  rw[D,E];exact⟨_,_,rfl,rfl,⟨V,V⟩,fun h=>absurd h V⟩
theorem BsOk.app {B:List Bk}(h:BsOk B) {b:Bk}(D:(0≤b.kd∧b.kd≤3)∧b.es.length≤2):BsOk (B++[b]):=fun x e=>by
  rcases List.mem_append.1 e with e|e
  · exact h x e
  · rw[mem_singleton] at e;subst e;exact D
theorem EsR.app {w:World}{B:List Bk}(h:EsR w B) {b:Bk}(D:RdsW w b.bv 2 b.es.length (b.es.flatMap leC)):EsR w (B++[b]):=fun x e=>by
  rcases List.mem_append.1 e with e|e
  · exact h x e
  · rw[mem_singleton] at e;subst e;exact D
theorem LesIn.two {n:Ln}{es:List Le}(h:LesIn n es) {i k:Nat}(e:i<es.length) (B:k<es.length):∀q,q < [es.getD i le0,es.getD k le0].length→LeIn n ([es.getD i le0,es.getD k le0].getD q le0)
  | 0,_=>h i e
  | 1,_=>h k B
  | q+2,hq=>absurd hq (by simp only[length_cons,List.length_nil];omega)
theorem kU (n:Ln) (w:World) (e:RdsLn w n) (h:LnOk n) :
   Calls Tryz.prog 152 #[.agg #[.int .i64 n.ins,n.sv,n.lv,n.ov]] w (Ret w (fun v' post=>post=[rI9 3 v' (usK n)])):=by
 have ae:=vV e.ou
 have af:=e.sq.small
 have ag:=e.lt.small
 have ab:n.cnt=1+n.ins+n.ss.length+n.ls.length:=rfl
 have ac:n.fst=1+n.ins+n.ss.length:=rfl
 obtain⟨⟨ah,ai⟩,s2,s3,s4⟩:=h.sz
 refine aY (N:=94) (args:=[.agg #[jI n.ins,n.sv,n.lv,n.ov]]) Tryz.func152 A A (dW ?_)
 refine cU A (cE A A) fun b1=>go ?_
 refine cM A (aF A A (fun w hm=>aI (by have h9:=mK n w (e.below hm.bel);rw[tI h.sz] at h9;exact h9))) (cH A (fB (z:=jI 0) (s:=1) (bytes:=8) (n:=(replicate n.cnt.toNat (0:Int)).length) (cs:=(mI (replicate n.cnt.toNat (0:Int)))) A z8 A V A A AB AB AF (gW _)) fun Z=>go ?_)
 refine iG (α:=Nat) (β:=List Int) [0,1,2,3] A (fun i zs=>[rI9 3 (.slice (some ⟨Z,0,none⟩) ((replicate n.cnt.toNat (0:Int)).length) ((replicate n.cnt.toNat (0:Int)).length)) zs,boxE b1 #[jI n.ins,n.sv,n.lv,n.ov] 108]) (fun i zs=>[(4,jI (i:Int))]) (fun i zs=>i≤n.ls.length∧zs.length=n.cnt.toNat∧CntB zs (4*i)∧zs=usA n i) (fun i zs=>n.ls.length-i) 0 (replicate n.cnt.toNat (0:Int)) ⟨Nat.zero_le _,length_replicate,nZ _ _,A⟩ (bV A) (cZ A) fun i zs a5=>go ?_
 obtain⟨hi,E,G,J⟩:=a5
 refine aN A (eV A A A (aE ((e).lt.row))) ?_
 refine aW A A A A A A (fun h4=>go ?_) (fun h4=>go ?_)
 refine iG (α:=Nat) (β:=List Int) [0,1,2,3,4,16] A (fun k us=>[rI9 3 (.slice (some ⟨Z,0,none⟩) ((replicate n.cnt.toNat (0:Int)).length) ((replicate n.cnt.toNat (0:Int)).length)) us,boxE b1 #[jI n.ins,n.sv,n.lv,n.ov] 108]) (fun k us=>[(5,jI (k:Int))]) (fun k us=>k≤(n.ls.getD i lt0).xs.length∧us.length=n.cnt.toNat∧CntB us (4*i+k)∧us=incT (usA n i) (n.ls.getD i lt0).xs k) (fun k us=>(n.ls.getD i lt0).xs.length-k) 0 zs ⟨Nat.zero_le _,E,dD G O,J⟩ (bV A) (cZ A) fun k us a6=>go ?_
 obtain⟨hk,a0,D,B⟩:=a6
 refine aN A (cV 2 A A A A (aE ((e).lt.row))) (aN A (bR (k0:=0) A A A (aE ((e).lt.row)) O) ?_)
 refine aN A (aL (u:=(n.ls.getD i lt0).iv) A A A (aE ((e).lt.row)) ((dC ltC 2 (fun _=>A) n.ls lt0 (show i<_ by omega) V).trans A)) (aN A (eV A A A (aE ((e).lt.at (d:=lt0) (k:=i) O))) ?_)
 refine aW A A A A A A (fun h6=>go ?_) (fun h6=>go ?_)
 have a1:=(h.lt i O).1.2 k O
 have Y:=(h.lt i O).1.1
 have a2:=D ((n.ls.getD i lt0).xs.getD k 0).toNat
 refine aN A (cV 2 A A A A (aE ((e).lt.row))) (aN A (bR (k0:=0) A A A (aE ((e).lt.row)) O) ?_)
 refine aN A (aL (u:=(n.ls.getD i lt0).iv) A A A (aE ((e).lt.row)) ((dC ltC 2 (fun _=>A) n.ls lt0 (show i<_ by omega) V).trans A)) (go ?_)
 refine aN A (cV 1 A A A A (aE ((e).lt.at (d:=lt0) (k:=i) O))) (aN A (aL (u:=jI (((n.ls.getD i lt0).xs).getD k 0)) A A A (aE ((e).lt.at (d:=lt0) (k:=i) O)) (cJ (show _<((n.ls.getD i lt0).xs).length by omega))) (aN A (cV 1 A A A A (aB 0 A)) (aN A (lP A A A (aB 0 A)) (go ?_))))
 refine aN A (cV 1 A A A A (aB 0 A)) ?_
 refine dS (i:=0) (n':=(us.set ((((n.ls.getD i lt0).xs).getD k 0).toNat) ((us.getD ((((n.ls.getD i lt0).xs).getD k 0).toNat) 0)+1)).length) (xs':=((us.set ((((n.ls.getD i lt0).xs).getD k 0).toNat) ((us.getD ((((n.ls.getD i lt0).xs).getD k 0).toNat) 0)+1)).map (Value.int .i64))) A A A A A A A A AA List.length_set.symm (eP _ _ _) A (go ?_)
 exact bO (k+1) (us.set ((((n.ls.getD i lt0).xs).getD k 0).toNat) ((us.getD ((((n.ls.getD i lt0).xs).getD k 0).toNat) 0)+1)) ⟨O,by first|assumption|(rw[length_set];assumption),by first|exact eL I|exact dD I O,by rw[B];rfl⟩ O (bV A) (cZ A)
 have Y:=(h.lt i O).1.1
 exact bO (i+1) us ⟨O,by first|assumption|(rw[length_set];assumption),by first|exact eL I|exact dD I O,by rw[B,show k=(n.ls.getD i lt0).xs.length by omega];rfl⟩ O (bV A) (cZ A)
 refine iG (α:=Nat) (β:=List Int) [0,1,2,3,16] A (fun j vs=>[rI9 3 (.slice (some ⟨Z,0,none⟩) ((replicate n.cnt.toNat (0:Int)).length) ((replicate n.cnt.toNat (0:Int)).length)) vs,boxE b1 #[jI n.ins,n.sv,n.lv,n.ov] 108]) (fun j vs=>[(6,jI (j:Int))]) (fun j vs=>j≤n.ss.length∧vs.length=n.cnt.toNat∧CntB vs (1600+4*j)∧vs=usB n j) (fun j vs=>n.ss.length-j) 0 zs ⟨Nat.zero_le _,E,dD G O,by rw[J,show i=n.ls.length by omega];rfl⟩ (bV A) (cZ A) fun j vs a7=>go ?_
 obtain⟨hj,K,M,U⟩:=a7
 refine aN A (eV A A A (aE ((e).sq.row))) ?_
 refine aW A A A A A A (fun h8=>go ?_) (fun h8=>go ?_)
 refine iG (α:=Nat) (β:=List Int) [0,1,2,3,6,16,48] A (fun q ws=>[rI9 3 (.slice (some ⟨Z,0,none⟩) ((replicate n.cnt.toNat (0:Int)).length) ((replicate n.cnt.toNat (0:Int)).length)) ws,boxE b1 #[jI n.ins,n.sv,n.lv,n.ov] 108]) (fun q ws=>[(7,jI (q:Int))]) (fun q ws=>q≤(n.ss.getD j sq0).xs.length∧ws.length=n.cnt.toNat∧CntB ws (1600+4*j+q)∧ws=incT (usB n j) (n.ss.getD j sq0).xs q) (fun q ws=>(n.ss.getD j sq0).xs.length-q) 0 vs ⟨Nat.zero_le _,K,dD M O,U⟩ (bV A) (cZ A) fun q ws a8=>go ?_
 obtain⟨hq,ad,a3,X⟩:=a8
 refine aN A (cV 3 A A A A (aE ((e).sq.row))) (aN A (bR (k0:=2) A A A (aE ((e).sq.row)) O) ?_)
 refine aN A (aL (u:=(n.ss.getD j sq0).iv) A A A (aE ((e).sq.row)) ((dC sqC 3 (fun _=>A) n.ss sq0 (show j<_ by omega) V).trans A)) (aN A (eV A A A (aE ((e).sq.at (d:=sq0) (k:=j) O))) ?_)
 refine aW A A A A A A (fun a9=>go ?_) (fun a9=>go ?_)
 have a1:=(h.sq j O).2 q O
 have Y:=(h.sq j O).1.kind
 have a2:=a3 ((n.ss.getD j sq0).xs.getD q 0).toNat
 refine aN A (cV 3 A A A A (aE ((e).sq.row))) (aN A (bR (k0:=2) A A A (aE ((e).sq.row)) O) ?_)
 refine aN A (aL (u:=(n.ss.getD j sq0).iv) A A A (aE ((e).sq.row)) ((dC sqC 3 (fun _=>A) n.ss sq0 (show j<_ by omega) V).trans A)) (go ?_)
 refine aN A (cV 1 A A A A (aE ((e).sq.at (d:=sq0) (k:=j) O))) (aN A (aL (u:=jI (((n.ss.getD j sq0).xs).getD q 0)) A A A (aE ((e).sq.at (d:=sq0) (k:=j) O)) (cJ (show _<((n.ss.getD j sq0).xs).length by omega))) (aN A (cV 1 A A A A (aB 0 A)) (aN A (lP A A A (aB 0 A)) (go ?_))))
 refine aN A (cV 1 A A A A (aB 0 A)) ?_
 refine dS (i:=0) (n':=(ws.set ((((n.ss.getD j sq0).xs).getD q 0).toNat) ((ws.getD ((((n.ss.getD j sq0).xs).getD q 0).toNat) 0)+1)).length) (xs':=((ws.set ((((n.ss.getD j sq0).xs).getD q 0).toNat) ((ws.getD ((((n.ss.getD j sq0).xs).getD q 0).toNat) 0)+1)).map (Value.int .i64))) A A A A A A A A AA List.length_set.symm (eP _ _ _) A (go ?_)
 exact bO (q+1) (ws.set ((((n.ss.getD j sq0).xs).getD q 0).toNat) ((ws.getD ((((n.ss.getD j sq0).xs).getD q 0).toNat) 0)+1)) ⟨O,by first|assumption|(rw[length_set];assumption),by first|exact eL I|exact dD I O,by rw[X];rfl⟩ O (bV A) (cZ A)
 have Y:=(h.sq j O).1.kind
 exact bO (j+1) ws ⟨O,by first|assumption|(rw[length_set];assumption),by first|exact eL I|exact dD I O,by rw[X,show q=(n.ss.getD j sq0).xs.length by omega];rfl⟩ O (bV A) (cZ A)
 refine iG (α:=Nat) (β:=List Int) [0,1,2,3,16,48] A (fun k us=>[rI9 3 (.slice (some ⟨Z,0,none⟩) ((replicate n.cnt.toNat (0:Int)).length) ((replicate n.cnt.toNat (0:Int)).length)) us,boxE b1 #[jI n.ins,n.sv,n.lv,n.ov] 108]) (fun k us=>[(8,jI (k:Int))]) (fun k us=>k≤n.os.length∧us.length=n.cnt.toNat∧CntB us (1650+k)∧us=incT (usB n n.ss.length) n.os k) (fun k us=>n.os.length-k) 0 vs ⟨Nat.zero_le _,K,dD M O,by rw[U,show j=n.ss.length by omega];rfl⟩ (bV A) (cZ A) fun k us a4=>go ?_
 obtain⟨hk,a0,D,B⟩:=a4
 refine aN A (eV A A A (aE ((e).ou))) ?_
 refine aW A A A A A A (fun aa=>go ?_) (fun aa=>go ?_)
 have a1:=h.ou k O
 have a2:=D (n.os.getD k 0).toNat
 refine aN A (cV 1 A A A A (aE ((e).ou))) (aN A (lD A A A (aE ((e).ou))) (aN A (cV 1 A A A A (aB 0 A)) (aN A (lP A A A (aB 0 A)) (go ?_))))
 refine aN A (cV 1 A A A A (aB 0 A)) ?_
 refine dS (i:=0) (n':=(us.set ((n.os.getD k 0).toNat) ((us.getD ((n.os.getD k 0).toNat) 0)+1)).length) (xs':=((us.set ((n.os.getD k 0).toNat) ((us.getD ((n.os.getD k 0).toNat) 0)+1)).map (Value.int .i64))) A A A A A A A A AA List.length_set.symm (eP _ _ _) A (go ?_)
 exact bO (k+1) (us.set ((n.os.getD k 0).toNat) ((us.getD ((n.os.getD k 0).toNat) 0)+1)) ⟨O,by first|assumption|(rw[length_set];assumption),by first|exact eL I|exact dD I O,by rw[B];rfl⟩ O (bV A) (cZ A)
 exact(bM (post:=[rI9 3 (.slice (some ⟨Z,0,none⟩) ((replicate n.cnt.toNat (0:Int)).length) ((replicate n.cnt.toNat (0:Int)).length)) us]) A A (eA [0] A) (by rw[B,show k=n.os.length by omega];rfl))
theorem mZ (xs B:List Int) (v u:Value) (w:World) (hv:RdsW w v 1 xs.length (xs.map (Value.int .i64))) (Z:RdsW w u 1 B.length (B.map (Value.int .i64))) (a3:xs.length≤1000000) (a4:B.length≤1000000) :
   Calls Tryz.prog 154 #[v,u] w (Ret w (fun v' post=>post=[rI9 3 v' (setK xs B)])):=by
 refine aY (N:=57) (args:=[v,u]) Tryz.func154 A A (cF 1 A (aG (cN 1 A ?_)))
 refine fF A A A (aF A A (fun w E=>sI v xs w (hv.below E.bel) O)) fun e p2 R3=>?_
 subst R3
 refine go ?_
 refine cH A (bU (s:=1) A z8 A) fun g4=>go ?_
 refine fP (α:=Nat) (β:=Value) (γ:=List Int) [0,1,4,5] A (fun i h zs=>[rI9 3 h zs,rowE 3 1 e ((sortR xs).length) (mI (sortR xs))]) (fun i h zs=>[(6,h),(7,jI (i:Int))]) (fun i h zs=>i≤xs.length∧zs=setL xs B i) (fun i h zs=>xs.length-i) 0 _ [] ⟨Nat.zero_le _,A⟩ (bV A) (cZ A) fun i h zs a0=>go ?_
 obtain⟨hi,G⟩:=a0
 have a5:=mL xs
 have a6:zs.length≤i:=by rw[G];exact xR _ _ _
 refine aW A A A A A A (fun h6=>go ?_) (fun h6=>go ?_)
 rcases eq_false_or_eq_true (decide (0<(sortR xs).getD i 0)) with J|J
 have U:0<(sortR xs).getD i 0:=of_decide_eq_true J
 rcases eq_false_or_eq_true (hasB B ((sortR xs).getD i 0)) with D|D
 refine bL 32 [[],[],[0,1],[2],[3],[4],[5],[5],[5],[5,7,8],[5,9],[5,6,10],[5,11],[5,12],[13],[14],[14],[14],[14],[18],[18],[18],[18],[18],[18],[18],[18],[18],[18],[18],[14],[14,30]] [17,18,19,20,21,22,23,24,25,26,27,28,29,30,31,32,33,34,35,36,37,38,39,40,41,42,43,44,45,46,47,48] [e,jI (i:Int),elP e ((i:Int).toNat*1),jI ((sortR xs).getD i 0),.bool true,.bool true,u,e,jI (i:Int),elP e ((i:Int).toNat*1),jI ((sortR xs).getD i 0),.bool true,.bool false,.bool false,.bool false,undef,undef,undef,undef,undef,undef,undef,undef,undef,undef,undef,undef,undef,undef,undef,undef,.bool false] F A ?_ ?_
 exact⟨aJ,aJ,aJ,fL A (aL (u:=jI ((sortR xs).getD i 0)) A A A (aB 1 A) (cJ (show _<(sortR xs).length by omega))) A,aJ,aJ,aJ,aJ,aJ,aJ,fL A (aL (u:=jI ((sortR xs).getD i 0)) A A A (aB 1 A) (cJ (show _<(sortR xs).length by omega))) A,.inl ⟨A,iP (aF A A (fun w E=>aI (gU B ((sortR xs).getD i 0) _ w (Z.below E.bel) O))) D⟩,aJ,aJ,aJ,aJ,aJ,aJ,aJ,aJ,aJ,aJ,aJ,aJ,aJ,aJ,aJ,aJ,aJ,aJ,aJ,aJ,trivial⟩
 simp only[drop_succ_cons,drop_zero]
 refine go ?_
 exact aQ (i+1) h zs ⟨O,Cf G AM⟩ O (bV A) (cZ A)
 rcases eq_false_or_eq_true ((zs.length:Int)==0) with K|K
 have X:(zs.length:Int)=0:=beq_iff_eq.1 K
 refine bL 32 [[],[],[0,1],[2],[3],[4],[5],[5],[5],[5,7,8],[5,9],[5,6,10],[5,11],[5,12],[13],[14],[14,15],[14,16],[14,17],[18],[18],[18],[18],[18],[18],[18],[18],[18],[18],[18],[14,18,29],[14,30]] [17,18,19,20,21,22,23,24,25,26,27,28,29,30,31,32,33,34,35,36,37,38,39,40,41,42,43,44,45,46,47,48] [e,jI (i:Int),elP e ((i:Int).toNat*1),jI ((sortR xs).getD i 0),.bool true,.bool true,u,e,jI (i:Int),elP e ((i:Int).toNat*1),jI ((sortR xs).getD i 0),.bool false,.bool true,.bool true,.bool true,h,jI (zs.length:Int),.bool true,.bool true,undef,undef,undef,undef,undef,undef,undef,undef,undef,undef,undef,.bool true,.bool true] F A ?_ ?_
 exact⟨aJ,aJ,aJ,fL A (aL (u:=jI ((sortR xs).getD i 0)) A A A (aB 1 A) (cJ (show _<(sortR xs).length by omega))) A,aJ,aJ,aJ,aJ,aJ,aJ,fL A (aL (u:=jI ((sortR xs).getD i 0)) A A A (aB 1 A) (cJ (show _<(sortR xs).length by omega))) A,.inl ⟨A,iP (aF A A (fun w E=>aI (gU B ((sortR xs).getD i 0) _ w (Z.below E.bel) O))) D⟩,aJ,aJ,aJ,aJ,fL A (eV A A A (aB 0 A)) A,aJ,aJ,aJ,aJ,aJ,aJ,aJ,aJ,aJ,aJ,aJ,aJ,aJ,aJ,aJ,trivial⟩
 simp only[drop_succ_cons,drop_zero]
 refine go ?_
 refine aN A (cV 1 A A A A (aB 1 A)) (aN A (aL (u:=jI ((sortR xs).getD i 0)) A A A (aB 1 A) (cJ (show _<(sortR xs).length by omega))) ?_)
 refine cH A (aH (z:=jI 0) (s:=1) (cs:=(mI [(sortR xs).getD i 0])) A z8 A V A F A) fun a7=>?_
 refine bT (i:=1) (z:=jI 0) (bytes:=8) A A A A z8 F A A A A (aB 0 A) (bI _) AD (bK zs ([(sortR xs).getD i 0])) (cB zs ([(sortR xs).getD i 0])) (fun _=>A) fun a1=>go ?_
 exact aQ (i+1) a1 (zs++([(sortR xs).getD i 0])) ⟨O,Du G O I (by first|exact .inl O|exact .inr I|exact .inr O)⟩ O (bV A) (eA [1,0] A)
 have X:(zs.length:Int)≠0:=beq_eq_false_iff_ne.1 K
 refine bL 32 [[],[],[0,1],[2],[3],[4],[5],[5],[5],[5,7,8],[5,9],[5,6,10],[5,11],[5,12],[13],[14],[14,15],[14,16],[14,17],[18],[18],[18,20],[18,21],[18,19,22],[18,23],[18],[18],[18,25,26],[18,27],[18,24,28],[14,18,29],[14,30]] [17,18,19,20,21,22,23,24,25,26,27,28,29,30,31,32,33,34,35,36,37,38,39,40,41,42,43,44,45,46,47,48] [e,jI (i:Int),elP e ((i:Int).toNat*1),jI ((sortR xs).getD i 0),.bool true,.bool true,u,e,jI (i:Int),elP e ((i:Int).toNat*1),jI ((sortR xs).getD i 0),.bool false,.bool true,.bool true,.bool true,h,jI (zs.length:Int),.bool false,.bool false,h,h,jI (zs.length:Int),jI ((zs.length:Int)-1),elP h (((zs.length:Int)-1).toNat*1),jI (zs.getD (((zs.length:Int)-1).toNat) 0),e,jI (i:Int),elP e ((i:Int).toNat*1),jI ((sortR xs).getD i 0),.bool ((zs.getD (((zs.length:Int)-1).toNat) 0) != ((sortR xs).getD i 0)),.bool ((zs.getD (((zs.length:Int)-1).toNat) 0) != ((sortR xs).getD i 0)),.bool ((zs.getD (((zs.length:Int)-1).toNat) 0) != ((sortR xs).getD i 0))] F A ?_ ?_
 exact⟨aJ,aJ,aJ,fL A (aL (u:=jI ((sortR xs).getD i 0)) A A A (aB 1 A) (cJ (show _<(sortR xs).length by omega))) A,aJ,aJ,aJ,aJ,aJ,aJ,fL A (aL (u:=jI ((sortR xs).getD i 0)) A A A (aB 1 A) (cJ (show _<(sortR xs).length by omega))) A,.inl ⟨A,iP (aF A A (fun w E=>aI (gU B ((sortR xs).getD i 0) _ w (Z.below E.bel) O))) D⟩,aJ,aJ,aJ,aJ,fL A (eV A A A (aB 0 A)) A,aJ,aJ,aJ,aJ,fL A (eV A A A (aB 0 A)) A,aJ,aJ,aJ,aJ,aJ,aJ,fL A (aL (u:=jI ((sortR xs).getD i 0)) A A A (aB 1 A) (cJ (show _<(sortR xs).length by omega))) A,aJ,aJ,aJ,trivial⟩
 simp only[drop_succ_cons,drop_zero]
 refine go ?_
 refine fO A (fun M=>go ?_) (fun M=>go ?_)
 have Y:zs.getD (((zs.length:Int)-1).toNat) 0≠(sortR xs).getD i 0:=bne_iff_ne.1 M
 refine aN A (cV 1 A A A A (aB 1 A)) (aN A (aL (u:=jI ((sortR xs).getD i 0)) A A A (aB 1 A) (cJ (show _<(sortR xs).length by omega))) ?_)
 refine cH A (aH (z:=jI 0) (s:=1) (cs:=(mI [(sortR xs).getD i 0])) A z8 A V A F A) fun a8=>?_
 refine bT (i:=1) (z:=jI 0) (bytes:=8) A A A A z8 F A A A A (aB 0 A) (bI _) AD (bK zs ([(sortR xs).getD i 0])) (cB zs ([(sortR xs).getD i 0])) (fun _=>A) fun a2=>go ?_
 exact aQ (i+1) a2 (zs++([(sortR xs).getD i 0])) ⟨O,Du G O I (by first|exact .inl O|exact .inr I|exact .inr O)⟩ O (bV A) (eA [1,0] A)
 have Y:zs.getD (((zs.length:Int)-1).toNat) 0=(sortR xs).getD i 0:=(bne_eq_false_iff_eq.1 M)
 exact aQ (i+1) h zs ⟨O,Cf G AM⟩ O (bV A) (cZ A)
 have U:¬(0<(sortR xs).getD i 0):=of_decide_eq_false J
 refine bL 32 [[],[],[0,1],[2],[3],[4],[5],[5],[5],[5],[5],[5],[5],[5,12],[13],[14],[14],[14],[14],[18],[18],[18],[18],[18],[18],[18],[18],[18],[18],[18],[14],[14,30]] [17,18,19,20,21,22,23,24,25,26,27,28,29,30,31,32,33,34,35,36,37,38,39,40,41,42,43,44,45,46,47,48] [e,jI (i:Int),elP e ((i:Int).toNat*1),jI ((sortR xs).getD i 0),.bool false,.bool false,undef,undef,undef,undef,undef,undef,undef,.bool false,.bool false,undef,undef,undef,undef,undef,undef,undef,undef,undef,undef,undef,undef,undef,undef,undef,undef,.bool false] F A ?_ ?_
 exact⟨aJ,aJ,aJ,fL A (aL (u:=jI ((sortR xs).getD i 0)) A A A (aB 1 A) (cJ (show _<(sortR xs).length by omega))) A,aJ,aJ,aJ,aJ,aJ,aJ,aJ,aJ,aJ,aJ,aJ,aJ,aJ,aJ,aJ,aJ,aJ,aJ,aJ,aJ,aJ,aJ,aJ,aJ,aJ,aJ,aJ,aJ,trivial⟩
 simp only[drop_succ_cons,drop_zero]
 refine go ?_
 exact aQ (i+1) h zs ⟨O,Cf G AM⟩ O (bV A) (cZ A)
 exact bM (post:=[rI9 3 h zs]) A A (eA [0] A) (by rw[G,show i=xs.length by omega];rfl)
theorem nA (n:Ln) (e:Le) (w:World) (B:RdsLn w n) (h:LnOk n) (G:LeIn n e) :
   Calls Tryz.prog 137 #[.agg #[.int .i64 n.ins,n.sv,n.lv,n.ov],.agg #[.int .i64 e.u,.int .i64 e.f]] w (Ans w (.int .i64 (outK n e))):=by
 have J:=vV B.ou
 have K:=B.sq.small
 have M:=B.lt.small
 have D:n.cnt=1+n.ins+n.ss.length+n.ls.length:=rfl
 have E:n.fst=1+n.ins+n.ss.length:=rfl
 obtain⟨⟨U,X⟩,s2,s3,s4⟩:=h.sz
 obtain⟨⟨Y,Z⟩,⟨a0,a1⟩,eo⟩:=G
 refine aY (N:=19) (args:=[.agg #[jI n.ins,n.sv,n.lv,n.ov],.agg #[jI e.u,jI e.f]]) Tryz.func137 A A (dW ?_)
 refine cU A (cE A A) fun b1=>?_
 refine cU A (cE A A) fun b2=>go ?_
 refine eK A A A A A A (fun h3=>go ?_) (fun h3=>go ?_)
 exact aT A A (by unfold outK;rw[if_pos O])
 refine bL 5 [[],[0],[],[2],[1,3]] [14,15,16,17,18] [.agg #[jI n.ins,n.sv,n.lv,n.ov],jI n.fst,.pointer (some ⟨b2,0+0,none⟩),jI e.u,jI (n.fst+e.u)] F A ?_ ?_
 exact⟨aJ,.inl ⟨A,aF A A (fun w hm=>aI (iI n w (B.below hm.bel) h.sz))⟩,aJ,aJ,aJ,trivial⟩
 simp only[drop_succ_cons,drop_zero]
 refine go ?_
 exact aT A A (by unfold outK;rw[if_neg O];rfl)
theorem pO (n:Ln) (e:Le) (w:World) (B:RdsLn w n) (D:LnOk n) (U:LeIn n e) :
   Calls Tryz.prog 153 #[.agg #[.int .i64 n.ins,n.sv,n.lv,n.ov],.agg #[.int .i64 e.u,.int .i64 e.f]] w (Ret w (fun X post=>post=[rI9 3 X (insK n e)])):=by
 have Y:=vV B.ou
 have Z:=B.sq.small
 have a0:=B.lt.small
 have K:n.cnt=1+n.ins+n.ss.length+n.ls.length:=rfl
 have M:n.fst=1+n.ins+n.ss.length:=rfl
 obtain⟨⟨a1,a2⟩,s2,s3,s4⟩:=D.sz
 obtain⟨⟨a3,a4⟩,⟨a5,a6⟩,eo⟩:=U
 refine aY (N:=26) (args:=[.agg #[jI n.ins,n.sv,n.lv,n.ov],.agg #[jI e.u,jI e.f]]) Tryz.func153 A A (dW ?_)
 refine cU A (cE A A) fun b1=>?_
 refine cU A (cE A A) fun b2=>go ?_
 refine eK A A A A A A (fun h3=>go ?_) (fun h3=>go ?_)
 have E:=(D.lt e.u.toNat O).1.1
 refine aN A (cV 2 A A A A (aE ((B).lt.row))) (aN A (bR (k0:=0) A A A (aE ((B).lt.row)) O) ?_)
 refine aN A (aL (u:=(n.ls.getD (e.u.toNat) lt0).iv) A A A (aE ((B).lt.row)) ((dC ltC 2 (fun _=>A) n.ls lt0 (show e.u.toNat<_ by omega) V).trans A)) (cH A (bU (s:=1) A z8 A) fun g4=>?_)
 refine fF A A A (aF A A (fun w G=>mZ ((n.ls.getD (e.u.toNat) lt0).xs) [] _ _ w ((aE ((B.lt.at (d:=lt0) (k:=(e.u.toNat)) O))) w G) ⟨_,_,A,A,⟨V,V⟩,fun h=>absurd h V⟩ O V)) fun v5 p6 R7=>?_
 subst R7
 refine go ?_
 exact bM (post:=[rowE 3 1 v5 ((setK ((n.ls.getD (e.u.toNat) lt0).xs) []).length) (mI (setK ((n.ls.getD (e.u.toNat) lt0).xs) []))]) A A (eA [0] A) (by unfold insK;rw[if_pos O])
 have E:=(D.sq e.f.toNat O).1.kind
 refine aN A (cV 3 A A A A (aE ((B).sq.row))) (aN A (bR (k0:=2) A A A (aE ((B).sq.row)) O) ?_)
 refine aN A (aL (u:=(n.ss.getD (e.f.toNat) sq0).iv) A A A (aE ((B).sq.row)) ((dC sqC 3 (fun _=>A) n.ss sq0 (show e.f.toNat<_ by omega) V).trans A)) (cH A (bU (s:=1) A z8 A) fun g8=>?_)
 refine fF A A A (aF A A (fun w G=>mZ ((n.ss.getD (e.f.toNat) sq0).xs) [] _ _ w ((aE ((B.sq.at (d:=sq0) (k:=(e.f.toNat)) O))) w G) ⟨_,_,A,A,⟨V,V⟩,fun h=>absurd h V⟩ O V)) fun v9 a7 J=>?_
 subst J
 refine go ?_
 exact bM (post:=[rowE 3 1 v9 ((setK ((n.ss.getD (e.f.toNat) sq0).xs) []).length) (mI (setK ((n.ss.getD (e.f.toNat) sq0).xs) []))]) A A (eA [0] A) (by unfold insK;rw[if_neg O])
theorem Fq (n:Ln) (e:Le) (w:World) (h:RdsLn w n) (B:LnOk n) :
   Calls Tryz.prog 155 #[.agg #[.int .i64 n.ins,n.sv,n.lv,n.ov],.agg #[.int .i64 e.u,.int .i64 e.f]] w (Ans w (.bool (pB (LeP n e)))):=by
 have ap:=vV h.ou
 have aq:=h.sq.small
 have ar:=h.lt.small
 have an:n.cnt=1+n.ins+n.ss.length+n.ls.length:=rfl
 have ao:n.fst=1+n.ins+n.ss.length:=rfl
 obtain⟨⟨au,aw⟩,s2,s3,s4⟩:=B.sz
 have ax:=Dp n
 refine aY (N:=79) (args:=[.agg #[jI n.ins,n.sv,n.lv,n.ov],.agg #[jI e.u,jI e.f]]) Tryz.func155 A A (dW ?_)
 refine cU A (cE A A) fun b1=>?_
 refine cU A (cE A A) fun b2=>go ?_
 refine aN A (eV A A A (aE ((h).lt.row))) (go ?_)
 refine cM A (aF A A (fun w J=>aI (hI e.u (-1) ((n.ls.length:Int)-1) w))) (bD (fun h3=>go ?_) (fun h3=>go ?_))
 obtain⟨a0,ay⟩:=(dA _ _ _).1 h3
 refine aN A (eV A A A (aE ((h).sq.row))) (go ?_)
 refine cM A (aF A A (fun w J=>aI (hI e.f (-1) ((n.ss.length:Int)-1) w))) (bD (fun h4=>go ?_) (fun h4=>go ?_))
 obtain⟨a1,az⟩:=(dA _ _ _).1 h4
 refine aW A A A A A A (fun h5=>go ?_) (fun h5=>go ?_)
 refine aW A A A A A A (fun h6=>go ?_) (fun h6=>go ?_)
 exact aT A A (congrArg _ (fA (fun D=>by obtain⟨⟨⟨K,M⟩,⟨U,X⟩,Y⟩,E,G⟩:=D;first|omega|(have:=E O;omega)|(have:=G O O;omega))).symm)
 refine eK A A A A A A (fun h7=>go ?_) (fun h7=>go ?_)
 refine aN A (cV 3 A A A A (aE ((h).sq.row))) (aN A (bR (k0:=0) A A A (aE ((h).sq.row)) O) ?_)
 refine aN A (aL (u:=jI ((n.ss.getD (e.f.toNat) sq0).kd)) A A A (aE ((h).sq.row)) ((dC sqC 3 (fun _=>A) n.ss sq0 (show e.f.toNat<_ by omega) V).trans A)) (jY A A A A A A (fun h8=>go ?_) (fun h8=>go ?_))
 exact aT A A (congrArg _ (fA (fun D=>by obtain⟨⟨⟨K,M⟩,⟨U,X⟩,Y⟩,E,G⟩:=D;first|omega|(have:=E O;omega)|(have:=G O O;omega))).symm)
 refine aW A A A A A A (fun h9=>go ?_) (fun h9=>go ?_)
 exact aT A A (congrArg _ (gJ ⟨⟨⟨O,O⟩,⟨O,O⟩,O⟩,fun _=>O,fun _ _=>by first|omega|exact⟨O,O⟩⟩).symm)
 refine aW A A A A A A (fun a2=>go ?_) (fun a2=>go ?_)
 exact aT A A (congrArg _ (gJ ⟨⟨⟨O,O⟩,⟨O,O⟩,O⟩,fun _=>O,fun _ _=>by first|omega|exact⟨O,O⟩⟩).symm)
 refine bL 5 [[],[0],[],[2],[1,3]] [55,56,57,58,59] [.agg #[jI n.ins,n.sv,n.lv,n.ov],jI n.fst,.pointer (some ⟨b2,0+0,none⟩),jI e.u,jI (n.fst+e.u)] F A ?_ ?_
 exact⟨aJ,.inl ⟨A,aF A A (fun w J=>aI (iI n w (h.below J.bel) B.sz))⟩,aJ,aJ,aJ,trivial⟩
 simp only[drop_succ_cons,drop_zero]
 refine go ?_
 have Z:=(B.sq e.f.toNat O).1.kind
 refine aN A (cV 3 A A A A (aE ((h).sq.row))) (aN A (bR (k0:=2) A A A (aE ((h).sq.row)) O) ?_)
 refine aN A (aL (u:=(n.ss.getD (e.f.toNat) sq0).iv) A A A (aE ((h).sq.row)) ((dC sqC 3 (fun _=>A) n.ss sq0 (show e.f.toNat<_ by omega) V).trans A)) (aN A (cV 1 A A A A (aE (h.sq.at (d:=sq0) (k:=(e.f.toNat)) O))) (aN A (aL (u:=jI (((n.ss.getD (e.f.toNat) sq0).xs).getD 0 0)) A A A (aE (h.sq.at (d:=sq0) (k:=(e.f.toNat)) O)) (cJ (show _<((n.ss.getD (e.f.toNat) sq0).xs).length by omega))) (go ?_)))
 refine bZ A A A A A A (fun a3=>go ?_) (fun a3=>go ?_)
 refine fF A A A (aF A A (fun w J=>kU n w (h.below J.bel) B)) fun b0 b3 a4=>?_
 subst a4
 refine go ?_
 refine aN A (cV 1 A A A A (aB 0 A)) (aN A (aL (u:=jI ((usK n).getD ((n.fst+e.u).toNat) 0)) A A A (aB 0 A) (cJ (show _<(usK n).length by omega))) ?_)
 refine bZ A A A A A A (fun a5=>go ?_) (fun a5=>go ?_)
 exact aT A A (congrArg _ (gJ ⟨⟨⟨O,O⟩,⟨O,O⟩,O⟩,fun _=>O,fun _ _=>by first|omega|exact⟨O,O⟩⟩).symm)
 exact aT A A (congrArg _ (fA (fun D=>by obtain⟨⟨⟨K,M⟩,⟨U,X⟩,Y⟩,E,G⟩:=D;first|omega|(have:=E O;omega)|(have:=G O O;omega))).symm)
 exact aT A A (congrArg _ (fA (fun D=>by obtain⟨⟨⟨K,M⟩,⟨U,X⟩,Y⟩,E,G⟩:=D;first|omega|(have:=E O;omega)|(have:=G O O;omega))).symm)
 refine aW A A A A A A (fun a6=>go ?_) (fun a6=>go ?_)
 exact aT A A (congrArg _ (gJ ⟨⟨⟨O,O⟩,⟨O,O⟩,O⟩,fun _=>O,fun _ _=>by first|omega|exact⟨O,O⟩⟩).symm)
 refine aW A A A A A A (fun a7=>go ?_) (fun a7=>go ?_)
 exact aT A A (congrArg _ (gJ ⟨⟨⟨O,O⟩,⟨O,O⟩,O⟩,fun _=>O,fun _ _=>by first|omega|exact⟨O,O⟩⟩).symm)
 refine bL 5 [[],[0],[],[2],[1,3]] [55,56,57,58,59] [.agg #[jI n.ins,n.sv,n.lv,n.ov],jI n.fst,.pointer (some ⟨b2,0+0,none⟩),jI e.u,jI (n.fst+e.u)] F A ?_ ?_
 exact⟨aJ,.inl ⟨A,aF A A (fun w J=>aI (iI n w (h.below J.bel) B.sz))⟩,aJ,aJ,aJ,trivial⟩
 simp only[drop_succ_cons,drop_zero]
 refine go ?_
 have Z:=(B.sq e.f.toNat O).1.kind
 refine aN A (cV 3 A A A A (aE ((h).sq.row))) (aN A (bR (k0:=2) A A A (aE ((h).sq.row)) O) ?_)
 refine aN A (aL (u:=(n.ss.getD (e.f.toNat) sq0).iv) A A A (aE ((h).sq.row)) ((dC sqC 3 (fun _=>A) n.ss sq0 (show e.f.toNat<_ by omega) V).trans A)) (aN A (cV 1 A A A A (aE (h.sq.at (d:=sq0) (k:=(e.f.toNat)) O))) (aN A (aL (u:=jI (((n.ss.getD (e.f.toNat) sq0).xs).getD 0 0)) A A A (aE (h.sq.at (d:=sq0) (k:=(e.f.toNat)) O)) (cJ (show _<((n.ss.getD (e.f.toNat) sq0).xs).length by omega))) (go ?_)))
 refine bZ A A A A A A (fun a8=>go ?_) (fun a8=>go ?_)
 refine fF A A A (aF A A (fun w J=>kU n w (h.below J.bel) B)) fun b4 b5 a9=>?_
 subst a9
 refine go ?_
 refine aN A (cV 1 A A A A (aB 0 A)) (aN A (aL (u:=jI ((usK n).getD ((n.fst+e.u).toNat) 0)) A A A (aB 0 A) (cJ (show _<(usK n).length by omega))) ?_)
 refine bZ A A A A A A (fun aa=>go ?_) (fun aa=>go ?_)
 exact aT A A (congrArg _ (gJ ⟨⟨⟨O,O⟩,⟨O,O⟩,O⟩,fun _=>O,fun _ _=>by first|omega|exact⟨O,O⟩⟩).symm)
 exact aT A A (congrArg _ (fA (fun D=>by obtain⟨⟨⟨K,M⟩,⟨U,X⟩,Y⟩,E,G⟩:=D;first|omega|(have:=E O;omega)|(have:=G O O;omega))).symm)
 exact aT A A (congrArg _ (fA (fun D=>by obtain⟨⟨⟨K,M⟩,⟨U,X⟩,Y⟩,E,G⟩:=D;first|omega|(have:=E O;omega)|(have:=G O O;omega))).symm)
 refine eK A A A A A A (fun ab=>go ?_) (fun ab=>go ?_)
 refine aN A (cV 3 A A A A (aE ((h).sq.row))) (aN A (bR (k0:=0) A A A (aE ((h).sq.row)) O) ?_)
 refine aN A (aL (u:=jI ((n.ss.getD (e.f.toNat) sq0).kd)) A A A (aE ((h).sq.row)) ((dC sqC 3 (fun _=>A) n.ss sq0 (show e.f.toNat<_ by omega) V).trans A)) (jY A A A A A A (fun ac=>go ?_) (fun ac=>go ?_))
 exact aT A A (congrArg _ (fA (fun D=>by obtain⟨⟨⟨K,M⟩,⟨U,X⟩,Y⟩,E,G⟩:=D;first|omega|(have:=E O;omega)|(have:=G O O;omega))).symm)
 refine aW A A A A A A (fun ad=>go ?_) (fun ad=>go ?_)
 exact aT A A (congrArg _ (gJ ⟨⟨⟨O,O⟩,⟨O,O⟩,O⟩,fun _=>O,fun _ _=>by first|omega|exact⟨O,O⟩⟩).symm)
 refine aW A A A A A A (fun ae=>go ?_) (fun ae=>go ?_)
 exact aT A A (congrArg _ (gJ ⟨⟨⟨O,O⟩,⟨O,O⟩,O⟩,fun _=>O,fun _ _=>by first|omega|exact⟨O,O⟩⟩).symm)
 refine bL 5 [[],[0],[],[2],[1,3]] [55,56,57,58,59] [.agg #[jI n.ins,n.sv,n.lv,n.ov],jI n.fst,.pointer (some ⟨b2,0+0,none⟩),jI e.u,jI (n.fst+e.u)] F A ?_ ?_
 exact⟨aJ,.inl ⟨A,aF A A (fun w J=>aI (iI n w (h.below J.bel) B.sz))⟩,aJ,aJ,aJ,trivial⟩
 simp only[drop_succ_cons,drop_zero]
 refine go ?_
 have Z:=(B.sq e.f.toNat O).1.kind
 refine aN A (cV 3 A A A A (aE ((h).sq.row))) (aN A (bR (k0:=2) A A A (aE ((h).sq.row)) O) ?_)
 refine aN A (aL (u:=(n.ss.getD (e.f.toNat) sq0).iv) A A A (aE ((h).sq.row)) ((dC sqC 3 (fun _=>A) n.ss sq0 (show e.f.toNat<_ by omega) V).trans A)) (aN A (cV 1 A A A A (aE (h.sq.at (d:=sq0) (k:=(e.f.toNat)) O))) (aN A (aL (u:=jI (((n.ss.getD (e.f.toNat) sq0).xs).getD 0 0)) A A A (aE (h.sq.at (d:=sq0) (k:=(e.f.toNat)) O)) (cJ (show _<((n.ss.getD (e.f.toNat) sq0).xs).length by omega))) (go ?_)))
 refine bZ A A A A A A (fun af=>go ?_) (fun af=>go ?_)
 refine fF A A A (aF A A (fun w J=>kU n w (h.below J.bel) B)) fun b6 b7 ag=>?_
 subst ag
 refine go ?_
 refine aN A (cV 1 A A A A (aB 0 A)) (aN A (aL (u:=jI ((usK n).getD ((n.fst+e.u).toNat) 0)) A A A (aB 0 A) (cJ (show _<(usK n).length by omega))) ?_)
 refine bZ A A A A A A (fun ah=>go ?_) (fun ah=>go ?_)
 exact aT A A (congrArg _ (gJ ⟨⟨⟨O,O⟩,⟨O,O⟩,O⟩,fun _=>O,fun _ _=>by first|omega|exact⟨O,O⟩⟩).symm)
 exact aT A A (congrArg _ (fA (fun D=>by obtain⟨⟨⟨K,M⟩,⟨U,X⟩,Y⟩,E,G⟩:=D;first|omega|(have:=E O;omega)|(have:=G O O;omega))).symm)
 exact aT A A (congrArg _ (fA (fun D=>by obtain⟨⟨⟨K,M⟩,⟨U,X⟩,Y⟩,E,G⟩:=D;first|omega|(have:=E O;omega)|(have:=G O O;omega))).symm)
 refine aW A A A A A A (fun ai=>go ?_) (fun ai=>go ?_)
 exact aT A A (congrArg _ (gJ ⟨⟨⟨O,O⟩,⟨O,O⟩,O⟩,fun _=>O,fun _ _=>by first|omega|exact⟨O,O⟩⟩).symm)
 refine aW A A A A A A (fun aj=>go ?_) (fun aj=>go ?_)
 exact aT A A (congrArg _ (gJ ⟨⟨⟨O,O⟩,⟨O,O⟩,O⟩,fun _=>O,fun _ _=>by first|omega|exact⟨O,O⟩⟩).symm)
 refine bL 5 [[],[0],[],[2],[1,3]] [55,56,57,58,59] [.agg #[jI n.ins,n.sv,n.lv,n.ov],jI n.fst,.pointer (some ⟨b2,0+0,none⟩),jI e.u,jI (n.fst+e.u)] F A ?_ ?_
 exact⟨aJ,.inl ⟨A,aF A A (fun w J=>aI (iI n w (h.below J.bel) B.sz))⟩,aJ,aJ,aJ,trivial⟩
 simp only[drop_succ_cons,drop_zero]
 refine go ?_
 have Z:=(B.sq e.f.toNat O).1.kind
 refine aN A (cV 3 A A A A (aE ((h).sq.row))) (aN A (bR (k0:=2) A A A (aE ((h).sq.row)) O) ?_)
 refine aN A (aL (u:=(n.ss.getD (e.f.toNat) sq0).iv) A A A (aE ((h).sq.row)) ((dC sqC 3 (fun _=>A) n.ss sq0 (show e.f.toNat<_ by omega) V).trans A)) (aN A (cV 1 A A A A (aE (h.sq.at (d:=sq0) (k:=(e.f.toNat)) O))) (aN A (aL (u:=jI (((n.ss.getD (e.f.toNat) sq0).xs).getD 0 0)) A A A (aE (h.sq.at (d:=sq0) (k:=(e.f.toNat)) O)) (cJ (show _<((n.ss.getD (e.f.toNat) sq0).xs).length by omega))) (go ?_)))
 refine bZ A A A A A A (fun ak=>go ?_) (fun ak=>go ?_)
 refine fF A A A (aF A A (fun w J=>kU n w (h.below J.bel) B)) fun b8 b9 al=>?_
 subst al
 refine go ?_
 refine aN A (cV 1 A A A A (aB 0 A)) (aN A (aL (u:=jI ((usK n).getD ((n.fst+e.u).toNat) 0)) A A A (aB 0 A) (cJ (show _<(usK n).length by omega))) ?_)
 refine bZ A A A A A A (fun am=>go ?_) (fun am=>go ?_)
 exact aT A A (congrArg _ (gJ ⟨⟨⟨O,O⟩,⟨O,O⟩,O⟩,fun _=>O,fun _ _=>by first|omega|exact⟨O,O⟩⟩).symm)
 exact aT A A (congrArg _ (fA (fun D=>by obtain⟨⟨⟨K,M⟩,⟨U,X⟩,Y⟩,E,G⟩:=D;first|omega|(have:=E O;omega)|(have:=G O O;omega))).symm)
 exact aT A A (congrArg _ (fA (fun D=>by obtain⟨⟨⟨K,M⟩,⟨U,X⟩,Y⟩,E,G⟩:=D;first|omega|(have:=E O;omega)|(have:=G O O;omega))).symm)
 have a1:=jW h4
 exact aT A A (congrArg _ (fA (fun D=>by obtain⟨⟨⟨K,M⟩,⟨U,X⟩,Y⟩,E,G⟩:=D;first|omega|(have:=E O;omega)|(have:=G O O;omega))).symm)
 have a0:=jW h3
 exact aT A A (congrArg _ (fA (fun D=>by obtain⟨⟨⟨K,M⟩,⟨U,X⟩,Y⟩,E,G⟩:=D;first|omega|(have:=E O;omega)|(have:=G O O;omega))).symm)
theorem nV (n:Ln) (es:List Le) (v:Value) (w:World) (Y:RdsLn w n) (E:LnOk n) (J:RdsW w v 2 es.length (es.flatMap leC)) (ac:es.length≤100) (Z:∀k,k<es.length→LeIn n (es.getD k le0)) :
   Calls Tryz.prog 133 #[.agg #[.int .i64 n.ins,n.sv,n.lv,n.ov],v] w (Ret w (fun v' post=>post=[rI9 3 v' (pinsK n es)])):=by
 have ad:=vV Y.ou
 have ae:=Y.sq.small
 have af:=Y.lt.small
 have a9:n.cnt=1+n.ins+n.ss.length+n.ls.length:=rfl
 have aa:n.fst=1+n.ins+n.ss.length:=rfl
 obtain⟨⟨ag,ah⟩,s2,s3,s4⟩:=E.sz
 refine aY (N:=36) (args:=[.agg #[jI n.ins,n.sv,n.lv,n.ov],v]) Tryz.func133 A A (dW ?_)
 refine cU A (cE A A) fun b1=>go ?_
 refine cH A (bU (s:=1) A z8 A) fun g2=>go ?_
 refine cH A (bU (s:=1) A z8 A) fun g3=>go ?_
 refine fP (α:=Nat) (β:=Value) (γ:=Value) [0,1,2,4] A (fun k K M=>[rowE 3 1 M ((outL n es k).length) (mI (outL n es k)),rowE 3 1 K ((insL n es k).length) (mI (insL n es k)),boxE b1 #[jI n.ins,n.sv,n.lv,n.ov] 108]) (fun k K M=>[(5,K),(6,M),(7,jI (k:Int))]) (fun k K M=>k≤es.length) (fun k K M=>es.length-k) 0 _ _ (Nat.zero_le _) (bV A) (cZ A) fun k K M a2=>go ?_
 have hk:=a2
 have ai:=Ei E Z k O
 have aj:=qK n es k
 refine aW A A A A A A (fun h5=>go ?_) (fun h5=>go ?_)
 have G:=Z k O
 have ab:=tJ E G
 refine eI A 7 [0,1,2,3,4,5,6] (List.take 7 _) (List.drop 7 _) [[],[],[],[],[2,3],[4],[1,5]] [16,17,18,19,20,21,22] (fun i_ a3 B D=>match i_ with|0=>B=K∧D=[]|1=>B=.agg #[jI n.ins,n.sv,n.lv,n.ov]∧D=[]|2=>B=v∧D=[]|3=>B=jI (k:Int)∧D=[]|4=>B=elP v ((k:Int).toNat*2)∧D=[]|5=>B=.agg #[jI ((es.getD k le0).u),jI ((es.getD k le0).f)]∧D=[]|6=>(fun v' post=>post=[rI9 3 v' ((insK n (es.getD k le0)))]) B D|_=>True) (take_append_drop 7 _).symm F F A A ?_ ?_
 refine⟨?_,?_,?_,?_,?_,?_,?_,trivial⟩
 intro vf h e
 exact fG A (aD [5] A) (aK (aU A))
 intro vf h e
 exact eH A (aD [2] A) (aK (aP (cs:=[jI n.ins,n.sv,n.lv,n.ov]) A A A A A (aM 2 A 0 A)))
 intro vf h e
 exact fG A (aD [1] A) (aK (aU A))
 intro vf h e
 exact fG A (aD [7] A) (aK (aU A))
 intro vf h e
 have e2:=e 2 V
 have e3:=e 3 V
 exact eH A (aX 18 e2.1 (aX 19 e3.1 (aA _))) (aK (cV 2 A A A A (aE J)))
 intro vf h e
 have e4:=e 4 V
 exact eH A (aX 20 e4.1 (aA _)) (aK (cO (us:=[jI ((es.getD k le0).u),jI ((es.getD k le0).f)]) A A A A (aE J) O A (dQ leC 2 (fun _=>A) es le0 (show k<_ by omega) A)))
 intro vf h e
 have e1:=e 1 V
 have e5:=e 5 V
 exact eH A (aX 17 e1.1 (aX 21 e5.1 (aA _))) (aF A A (fun w X=>pO n (es.getD k le0) w (Y.below X.bel) E G))
 intro vf h e
 have e0:=e 0 V
 obtain⟨v6,U⟩:=dU (vf 6)
 obtain⟨p7,a0⟩:=dU (h 6)
 have R8:=e 6 V
 rw[U,a0] at R8
 subst R8
 have q0:=e 0 V
 have q1:=e 1 V
 have q2:=e 2 V
 have q3:=e 3 V
 have q4:=e 4 V
 have q5:=e 5 V
 refine cL (bE [13,7,6,5,4,2,1,0] _ (aX 16 e0.1 (aX 22 U (aA _))) A) (by simp only[a0,U,q0.2,q1.2,q2.2,q3.2,q4.2,q5.2,fS]<;>rfl) ?_
 simp only[drop_succ_cons,drop_zero]
 refine bT (i:=2) (z:=jI 0) (bytes:=8) A A A A z8 F A A A A (aB 0 A) (bI _) AD (bK (insL n es k) (insK n (es.getD k le0))) (cB (insL n es k) (insK n (es.getD k le0))) (fun _=>A) fun v9=>go ?_
 refine eI A 8 [0,1,2,3,4,5,6,7] (List.take 8 _) (List.drop 8 _) [[],[],[],[],[2,3],[4],[1,5],[6]] [24,25,26,27,28,29,30,31] (fun i_ a3 B D=>match i_ with|0=>B=M∧D=[]|1=>B=.agg #[jI n.ins,n.sv,n.lv,n.ov]∧D=[]|2=>B=v∧D=[]|3=>B=jI (k:Int)∧D=[]|4=>B=elP v ((k:Int).toNat*2)∧D=[]|5=>B=.agg #[jI ((es.getD k le0).u),jI ((es.getD k le0).f)]∧D=[]|6=>B=jI (outK n (es.getD k le0))∧D=[]|7=>IsRow 3 1 1 (mI [outK n (es.getD k le0)]) B D|_=>True) (take_append_drop 8 _).symm F F A A ?_ ?_
 refine⟨?_,?_,?_,?_,?_,?_,?_,?_,trivial⟩
 intro vf h e
 exact fG A (aD [6] A) (aK (aU A))
 intro vf h e
 exact eH A (aD [2] A) (aK (aP (cs:=[jI n.ins,n.sv,n.lv,n.ov]) A A A A A (aM 3 A 0 A)))
 intro vf h e
 exact fG A (aD [1] A) (aK (aU A))
 intro vf h e
 exact fG A (aD [7] A) (aK (aU A))
 intro vf h e
 have e2:=e 2 V
 have e3:=e 3 V
 exact eH A (aX 26 e2.1 (aX 27 e3.1 (aA _))) (aK (cV 2 A A A A (aE J)))
 intro vf h e
 have e4:=e 4 V
 exact eH A (aX 28 e4.1 (aA _)) (aK (cO (us:=[jI ((es.getD k le0).u),jI ((es.getD k le0).f)]) A A A A (aE J) O A (dQ leC 2 (fun _=>A) es le0 (show k<_ by omega) A)))
 intro vf h e
 have e1:=e 1 V
 have e5:=e 5 V
 exact eH A (aX 25 e1.1 (aX 29 e5.1 (aA _))) (aF A A (fun w X=>aI (nA n (es.getD k le0) w (Y.below X.bel) E G)))
 intro vf h e
 have e6:=e 6 V
 exact eH A (aX 30 e6.1 (aA _)) (aH (z:=jI 0) (s:=1) (cs:=(mI [outK n (es.getD k le0)])) A z8 A V A F A)
 intro vf h e
 have e0:=e 0 V
 obtain⟨ak,a1,a4⟩:=e 7 V
 have q0:=e 0 V
 have q1:=e 1 V
 have q2:=e 2 V
 have q3:=e 3 V
 have q4:=e 4 V
 have q5:=e 5 V
 have q6:=e 6 V
 refine cL (bE [13,7,6,5,4,2,1,0] _ (aX 24 e0.1 (aX 31 a1 (aA _))) A) (by simp only[a4,a1,q0.2,q1.2,q2.2,q3.2,q4.2,q5.2,q6.2,fS]<;>rfl) ?_
 simp only[drop_succ_cons,drop_zero]
 refine bT (i:=2) (z:=jI 0) (bytes:=8) A A A A z8 F A A A A (aB 0 A) (bI _) AD (bK (outL n es k) ([outK n (es.getD k le0)])) (cB (outL n es k) ([outK n (es.getD k le0)])) (fun _=>A) fun a5=>go ?_
 exact aQ (k+1) v9 a5 O O (bV A) (eA [2,0,0] A)
 refine fF A A A (aF A A (fun w X=>mZ (insL n es k) (outL n es k) _ _ w ((aB 1 A) w X) ((aB 0 A) w X) O O)) fun a6 al a7=>?_
 subst a7
 refine go ?_
 have a8:k=es.length:=O
 exact bM (post:=[rowE 3 1 a6 ((setK (insL n es k) (outL n es k)).length) (mI (setK (insL n es k) (outL n es k)))]) A A (eA [0] A) (by rw[a8];rfl)
theorem nB (n:Ln) (b:Bk) (w:World) (K:RdsLn w n) (M:LnOk n) (Z:RdsW w b.bv 2 b.es.length (b.es.flatMap leC)) (a7:b.es.length≤100) :
   Calls Tryz.prog 136 #[.agg #[.int .i64 n.ins,n.sv,n.lv,n.ov],.agg #[.int .i64 b.kd,.int .i64 b.it,b.bv]] w (Ans w (.bool (pB (BkIn n b)))):=by
 have a8:=vV K.ou
 have a9:=K.sq.small
 have aa:=K.lt.small
 have a5:n.cnt=1+n.ins+n.ss.length+n.ls.length:=rfl
 have a6:n.fst=1+n.ins+n.ss.length:=rfl
 obtain⟨⟨ab,ac⟩,s2,s3,s4⟩:=M.sz
 have ad:=Z.one
 refine aY (N:=67) (args:=[.agg #[jI n.ins,n.sv,n.lv,n.ov],.agg #[jI b.kd,jI b.it,b.bv]]) Tryz.func136 A A (dW ?_)
 refine cU A (cE A A) fun b1=>?_
 refine cU A (cE A A) fun b2=>go ?_
 refine cM A (aF A A (fun w hm=>aI (by have h9:=kF n w (K.below hm.bel);rw[gJ M] at h9;exact h9))) (go ?_)
 refine bZ A A A A A A (fun h3=>go ?_) (fun h3=>go ?_)
 refine eK A A A A A A (fun h4=>go ?_) (fun h4=>go ?_)
 refine aW A A A A A A (fun h5=>go ?_) (fun h5=>go ?_)
 exact aT A A (congrArg _ (gJ (by first|exact .inl ⟨O,O,O⟩|exact .inr (.inl ⟨O,O,O⟩)|exact .inr (.inr (.inl ⟨O,O,O⟩))|exact .inr (.inr (.inr ⟨O,fun q Y=>E q O⟩)))).symm)
 exact aT A A (congrArg _ (fA (fun G=>by rcases G with⟨B,h,D⟩|⟨B,h,D⟩|⟨B,h,D⟩|⟨B,h⟩<;>first|omega|exact absurd (h k O) I)).symm)
 exact aT A A (congrArg _ (fA (fun G=>by rcases G with⟨B,h,D⟩|⟨B,h,D⟩|⟨B,h,D⟩|⟨B,h⟩<;>first|omega|exact absurd (h k O) I)).symm)
 refine bZ A A A A A A (fun h6=>go ?_) (fun h6=>go ?_)
 refine eK A A A A A A (fun h7=>go ?_) (fun h7=>go ?_)
 refine aN A (eV A A A (aE ((K).ou))) ?_
 refine aW A A A A A A (fun h8=>go ?_) (fun h8=>go ?_)
 exact aT A A (congrArg _ (gJ (by first|exact .inl ⟨O,O,O⟩|exact .inr (.inl ⟨O,O,O⟩)|exact .inr (.inr (.inl ⟨O,O,O⟩))|exact .inr (.inr (.inr ⟨O,fun q Y=>E q O⟩)))).symm)
 exact aT A A (congrArg _ (fA (fun G=>by rcases G with⟨B,h,D⟩|⟨B,h,D⟩|⟨B,h,D⟩|⟨B,h⟩<;>first|omega|exact absurd (h k O) I)).symm)
 exact aT A A (congrArg _ (fA (fun G=>by rcases G with⟨B,h,D⟩|⟨B,h,D⟩|⟨B,h,D⟩|⟨B,h⟩<;>first|omega|exact absurd (h k O) I)).symm)
 refine bZ A A A A A A (fun h9=>go ?_) (fun h9=>go ?_)
 refine eK A A A A A A (fun a1=>go ?_) (fun a1=>go ?_)
 refine aN A (eV A A A (aE ((K).sq.row))) ?_
 refine aW A A A A A A (fun a2=>go ?_) (fun a2=>go ?_)
 exact aT A A (congrArg _ (gJ (by first|exact .inl ⟨O,O,O⟩|exact .inr (.inl ⟨O,O,O⟩)|exact .inr (.inr (.inl ⟨O,O,O⟩))|exact .inr (.inr (.inr ⟨O,fun q Y=>E q O⟩)))).symm)
 exact aT A A (congrArg _ (fA (fun G=>by rcases G with⟨B,h,D⟩|⟨B,h,D⟩|⟨B,h,D⟩|⟨B,h⟩<;>first|omega|exact absurd (h k O) I)).symm)
 exact aT A A (congrArg _ (fA (fun G=>by rcases G with⟨B,h,D⟩|⟨B,h,D⟩|⟨B,h,D⟩|⟨B,h⟩<;>first|omega|exact absurd (h k O) I)).symm)
 refine lC (α:=Nat) [0,1,2,3,4,8,10,11,23,36] A (fun k=>[boxE b2 #[jI b.kd,jI b.it,b.bv] 136,boxE b1 #[jI n.ins,n.sv,n.lv,n.ov] 108]) (fun k=>[(5,jI (k:Int))]) (fun k=>k≤b.es.length∧∀q,q<k→LeP n (b.es.getD q le0)) (fun k=>b.es.length-k) 0 ⟨Nat.zero_le _,fun q Y=>absurd Y O⟩ (bV A) (cZ A) fun k a0=>go ?_
 obtain⟨hk,E⟩:=a0
 refine aW A A A A A A (fun a3=>go ?_) (fun a3=>go ?_)
 refine bL 8 [[],[],[1],[],[2,3],[4],[0,5],[6]] [56,57,58,59,60,61,62,63] [.agg #[jI n.ins,n.sv,n.lv,n.ov],.pointer (some ⟨b2,0+2,none⟩),b.bv,jI (k:Int),elP b.bv ((k:Int).toNat*2),.agg #[jI ((b.es.getD k le0).u),jI ((b.es.getD k le0).f)],.bool (pB (LeP n (b.es.getD k le0))),.bool (!(pB (LeP n (b.es.getD k le0))))] F A ?_ ?_
 exact⟨aJ,aJ,aJ,aJ,aJ,fL A (cO (us:=[jI ((b.es.getD k le0).u),jI ((b.es.getD k le0).f)]) A A A A (aE Z) O A (dQ leC 2 (fun _=>A) b.es le0 (show k<_ by omega) A)) A,.inl ⟨A,aF A A (fun w hm=>aI (Fq n (b.es.getD k le0) w (K.below hm.bel) M))⟩,aJ,trivial⟩
 simp only[drop_succ_cons,drop_zero]
 refine go ?_
 refine fO A (fun U=>go ?_) (fun U=>go ?_)
 have J:(pB (LeP n (b.es.getD k le0)))=false:=by simpa using U
 have X:=lB J
 exact aT A A (congrArg _ (fA (fun G=>by rcases G with⟨B,h,D⟩|⟨B,h,D⟩|⟨B,h,D⟩|⟨B,h⟩<;>first|omega|exact absurd (h k O) I)).symm)
 have J:(pB (LeP n (b.es.getD k le0)))=true:=by simpa using U
 have X:=nH J
 exact dR (k+1) ⟨O,fun q Y=>by by_cases e:q=k;(subst e;assumption);exact E q O⟩ O (bV A) (cZ A)
 refine bZ A A A A A A (fun a4=>go ?_) (fun a4=>go ?_)
 exact aT A A (congrArg _ (gJ (by first|exact .inl ⟨O,O,O⟩|exact .inr (.inl ⟨O,O,O⟩)|exact .inr (.inr (.inl ⟨O,O,O⟩))|exact .inr (.inr (.inr ⟨O,fun q Y=>E q O⟩)))).symm)
 exact aT A A (congrArg _ (fA (fun G=>by rcases G with⟨B,h,D⟩|⟨B,h,D⟩|⟨B,h,D⟩|⟨B,h⟩<;>first|omega|exact absurd (h k O) I)).symm)
theorem zF (n:Ln) (b:Bk) (w:World) (h:RdsLn w n) (E:LnOk n) (J:RdsW w b.bv 2 b.es.length (b.es.flatMap leC)) (K:b.es.length≤100) :
   Calls Tryz.prog 114 #[.agg #[.int .i64 n.ins,n.sv,n.lv,n.ov],.agg #[.int .i64 b.kd,.int .i64 b.it,b.bv]] w (Ret w (fun v' post=>post=[rI9 3 v' (pinN n b)])):=by
 have a7:=vV h.ou
 have a8:=h.sq.small
 have a9:=h.lt.small
 have a4:n.cnt=1+n.ins+n.ss.length+n.ls.length:=rfl
 have a5:n.fst=1+n.ins+n.ss.length:=rfl
 obtain⟨⟨aa,ab⟩,s2,s3,s4⟩:=E.sz
 have ac:=J.one
 refine aY (N:=39) (args:=[.agg #[jI n.ins,n.sv,n.lv,n.ov],.agg #[jI b.kd,jI b.it,b.bv]]) Tryz.func114 A A (dW ?_)
 refine cU A (cE A A) fun b1=>?_
 refine cU A (cE A A) fun b2=>go ?_
 refine cM A (aF A A (fun w M=>aI (nB n b w (h.below M.bel) E (J.below M.bel) K))) (bD (fun X=>go ?_) (fun X=>go ?_))
 have Y:=nH X
 refine bZ A A A A A A (fun h4=>go ?_) (fun h4=>go ?_)
 refine cH A (bU (s:=1) A z8 A) fun g5=>go ?_
 exact bM (post:=[rowE 3 1 (.slice (some ⟨g5,0,none⟩) 0 0) 0 ([])]) A A (eA [0] A) (by unfold pinN;first|(rw[if_pos (show ¬BkIn n b by assumption)]<;>rfl)|(rw[if_neg (not_not_intro (show BkIn n b by assumption)),if_pos O]<;>rfl)|(rw[if_neg (not_not_intro (show BkIn n b by assumption)),if_neg O,if_pos O]<;>rfl)|(rw[if_neg (not_not_intro (show BkIn n b by assumption)),if_neg O,if_neg O,if_pos O]<;>rfl)|(rw[if_neg (not_not_intro (show BkIn n b by assumption)),if_neg O,if_neg O,if_neg O]<;>rfl))
 refine bZ A A A A A A (fun h6=>go ?_) (fun h6=>go ?_)
 have B:BkIn n b:=I
 have Z:(b.kd=0→0≤b.it∧b.it<n.ins)∧(b.kd=1→0≤b.it∧b.it<n.os.length)∧(b.kd=2→0≤b.it∧b.it<n.ss.length):=by rcases B with⟨D,e,G⟩|⟨D,e,G⟩|⟨D,e,G⟩|⟨D,e⟩<;>omega
 refine aN A (cV 1 A A A A (aE ((h).ou))) (aN A (lP A A A (aE ((h).ou))) ?_)
 refine cH A (aH (z:=jI 0) (s:=1) (cs:=(mI [n.os.getD (b.it.toNat) 0])) A z8 A V A F A) fun g7=>go ?_
 exact bM (post:=[rowE 3 1 (.slice (some ⟨g7,0,none⟩) 1 1) 1 (mI [n.os.getD (b.it.toNat) 0])]) A A (eA [0] A) (by unfold pinN;first|(rw[if_pos (show ¬BkIn n b by assumption)]<;>rfl)|(rw[if_neg (not_not_intro (show BkIn n b by assumption)),if_pos O]<;>rfl)|(rw[if_neg (not_not_intro (show BkIn n b by assumption)),if_neg O,if_pos O]<;>rfl)|(rw[if_neg (not_not_intro (show BkIn n b by assumption)),if_neg O,if_neg O,if_pos O]<;>rfl)|(rw[if_neg (not_not_intro (show BkIn n b by assumption)),if_neg O,if_neg O,if_neg O]<;>rfl))
 refine bZ A A A A A A (fun h8=>go ?_) (fun h8=>go ?_)
 have B:BkIn n b:=I
 have Z:(b.kd=0→0≤b.it∧b.it<n.ins)∧(b.kd=1→0≤b.it∧b.it<n.os.length)∧(b.kd=2→0≤b.it∧b.it<n.ss.length):=by rcases B with⟨D,e,G⟩|⟨D,e,G⟩|⟨D,e,G⟩|⟨D,e⟩<;>omega
 have a6:=(E.sq b.it.toNat O).1.len
 refine cH A (bU (s:=1) A z8 A) fun g9=>go ?_
 refine aN A (cV 3 A A A A (aE ((h).sq.row))) (aN A (bR (k0:=2) A A A (aE ((h).sq.row)) O) ?_)
 refine aN A (aL (u:=(n.ss.getD (b.it.toNat) sq0).iv) A A A (aE ((h).sq.row)) ((dC sqC 3 (fun _=>A) n.ss sq0 (show b.it.toNat<_ by omega) V).trans A)) (bT (i:=0) (z:=jI 0) (bytes:=8) (n':=((n.ss.getD (b.it.toNat) sq0).xs).length) (xs':=(mI ((n.ss.getD (b.it.toNat) sq0).xs))) A A A A z8 F A A A A (aE (h.sq.at (d:=sq0) (k:=(b.it.toNat)) O)) (bI _) AD (Nat.zero_add _) (nil_append _) (fun _=>A) fun a0=>go ?_)
 exact bM (post:=[rowE 3 1 a0 (((n.ss.getD (b.it.toNat) sq0).xs).length) (mI ((n.ss.getD (b.it.toNat) sq0).xs))]) A A (eA [0] A) (by unfold pinN;first|(rw[if_pos (show ¬BkIn n b by assumption)]<;>rfl)|(rw[if_neg (not_not_intro (show BkIn n b by assumption)),if_pos O]<;>rfl)|(rw[if_neg (not_not_intro (show BkIn n b by assumption)),if_neg O,if_pos O]<;>rfl)|(rw[if_neg (not_not_intro (show BkIn n b by assumption)),if_neg O,if_neg O,if_pos O]<;>rfl)|(rw[if_neg (not_not_intro (show BkIn n b by assumption)),if_neg O,if_neg O,if_neg O]<;>rfl))
 have B:BkIn n b:=I
 have U:∀k,k<b.es.length→LeIn n (b.es.getD k le0):=by rcases B with⟨D,e,G⟩|⟨D,e,G⟩|⟨D,e,G⟩|⟨D,e⟩<;>first|omega|exact fun q hq=>(e q hq).1
 refine fF A A A (aF A A (fun w M=>nV n b.es _ w (h.below M.bel) E (J.below M.bel) K U)) fun a1 ad a2=>?_
 subst a2
 refine go ?_
 exact bM (post:=[rowE 3 1 a1 ((pinsK n b.es).length) (mI (pinsK n b.es))]) A A (eA [0] A) (by unfold pinN;first|(rw[if_pos (show ¬BkIn n b by assumption)]<;>rfl)|(rw[if_neg (not_not_intro (show BkIn n b by assumption)),if_pos O]<;>rfl)|(rw[if_neg (not_not_intro (show BkIn n b by assumption)),if_neg O,if_pos O]<;>rfl)|(rw[if_neg (not_not_intro (show BkIn n b by assumption)),if_neg O,if_neg O,if_pos O]<;>rfl)|(rw[if_neg (not_not_intro (show BkIn n b by assumption)),if_neg O,if_neg O,if_neg O]<;>rfl))
 have Y:=lB X
 refine cH A (bU (s:=1) A z8 A) fun a3=>go ?_
 exact bM (post:=[rowE 3 1 (.slice (some ⟨a3,0,none⟩) 0 0) 0 ([])]) A A (eA [0] A) (by unfold pinN;first|(rw[if_pos (show ¬BkIn n b by assumption)]<;>rfl)|(rw[if_neg (not_not_intro (show BkIn n b by assumption)),if_pos O]<;>rfl)|(rw[if_neg (not_not_intro (show BkIn n b by assumption)),if_neg O,if_pos O]<;>rfl)|(rw[if_neg (not_not_intro (show BkIn n b by assumption)),if_neg O,if_neg O,if_pos O]<;>rfl)|(rw[if_neg (not_not_intro (show BkIn n b by assumption)),if_neg O,if_neg O,if_neg O]<;>rfl))
theorem zG (n:Ln) (b:Bk) (w:World) (Z:RdsLn w n) (Y:LnOk n) (E:RdsW w b.bv 2 b.es.length (b.es.flatMap leC)) (a3:b.es.length≤100) :
   Calls Tryz.prog 115 #[.agg #[.int .i64 n.ins,n.sv,n.lv,n.ov],.agg #[.int .i64 b.kd,.int .i64 b.it,b.bv]] w (Ret w (fun v' post=>post=[rI9 3 v' (outNd n b)])):=by
 have ac:=vV Z.ou
 have ad:=Z.sq.small
 have ae:=Z.lt.small
 have aa:n.cnt=1+n.ins+n.ss.length+n.ls.length:=rfl
 have ab:n.fst=1+n.ins+n.ss.length:=rfl
 obtain⟨⟨af,ag⟩,s2,s3,s4⟩:=Y.sz
 have ah:=E.one
 refine aY (N:=51) (args:=[.agg #[jI n.ins,n.sv,n.lv,n.ov],.agg #[jI b.kd,jI b.it,b.bv]]) Tryz.func115 A A (dW ?_)
 refine cU A (cE A A) ?_
 intro b1
 refine cU A (cE A A) ?_
 intro b2
 refine bG 1 A (dW ?_)
 refine cH A (bU (s:=1) A z8 A) ?_
 intro g3
 refine bG 1 A (kE (aN A (aP (cs:=[jI n.ins,n.sv,n.lv,n.ov]) A A A A A (aM 2 A 0 A)) (aN A (aP (cs:=[jI b.kd,jI b.it,b.bv]) A A A A A (aM 1 A 0 A)) ?_)))
 refine cM A (aF A A (fun w hm=>aI (nB n b w (Z.below hm.bel) Y (E.below hm.bel) a3))) (bD (fun h4=>?_) (fun h4=>?_))
 have a4:=nH h4
 refine bG 1 A (aV A (eC (kE (aN A (fY 0 A A A) (aN A (bJ A A A (bA 1 A A)) (cP ?_))))))
 refine bB (bS (dW ?_))
 refine bZ A A A A A A (fun h5=>?_) (fun h5=>?_)
 refine bG 1 A (aR A (dW ?_))
 have B:BkIn n b:=I
 have a5:(b.kd=0→0≤b.it∧b.it<n.ins)∧(b.kd=1→0≤b.it∧b.it<n.os.length)∧(b.kd=2→0≤b.it∧b.it<n.ss.length):=by rcases B with⟨D,h,G⟩|⟨D,h,G⟩|⟨D,h,G⟩|⟨D,h⟩<;>omega
 refine aN A (fY 1 A A A) (aN A (bJ A A A (bA 1 A A)) (aN A (eY A A A) ?_))
 refine cH A (aH (z:=jI 0) (s:=1) (cs:=(mI [1+b.it])) A z8 A V A F A) ?_
 intro g6
 refine bG 1 A ?_
 refine cW (dE ?_)
 exact cK (bM (post:=[rowE 3 1 (.slice (some ⟨g6,0,none⟩) 1 1) 1 (mI [1+b.it])]) A A (eA [0] A) (by unfold outNd;first|(rw[if_pos (show ¬BkIn n b by assumption)]<;>rfl)|(rw[if_neg (not_not_intro (show BkIn n b by assumption)),if_pos O]<;>rfl)|(rw[if_neg (not_not_intro (show BkIn n b by assumption)),if_neg O,if_pos O]<;>rfl)|(rw[if_neg (not_not_intro (show BkIn n b by assumption)),if_neg O,if_neg O,if_pos O]<;>rfl)|(rw[if_neg (not_not_intro (show BkIn n b by assumption)),if_neg O,if_neg O,if_neg O]<;>rfl)))
 refine bG 1 A (aV A (dW ?_))
 refine bZ A A A A A A (fun h7=>?_) (fun h7=>?_)
 refine bG 1 A (aR A (cF 2 A ?_))
 refine cW (dE ?_)
 exact cK (bM (post:=[rowE 3 1 (.slice (some ⟨g3,0,none⟩) 0 0) 0 ([])]) A A (eA [0] A) (by unfold outNd;first|(rw[if_pos (show ¬BkIn n b by assumption)]<;>rfl)|(rw[if_neg (not_not_intro (show BkIn n b by assumption)),if_pos O]<;>rfl)|(rw[if_neg (not_not_intro (show BkIn n b by assumption)),if_neg O,if_pos O]<;>rfl)|(rw[if_neg (not_not_intro (show BkIn n b by assumption)),if_neg O,if_neg O,if_pos O]<;>rfl)|(rw[if_neg (not_not_intro (show BkIn n b by assumption)),if_neg O,if_neg O,if_neg O]<;>rfl)))
 refine bG 1 A (aV A (dW ?_))
 refine bZ A A A A A A (fun h8=>?_) (fun h8=>?_)
 refine bG 1 A (aR A (dW ?_))
 have B:BkIn n b:=I
 have a5:(b.kd=0→0≤b.it∧b.it<n.ins)∧(b.kd=1→0≤b.it∧b.it<n.os.length)∧(b.kd=2→0≤b.it∧b.it<n.ss.length):=by rcases B with⟨D,h,G⟩|⟨D,h,G⟩|⟨D,h,G⟩|⟨D,h⟩<;>omega
 refine aN A (fY 0 A A A) (aN A (bJ A A A (bA 2 A A)) (aN A (eY A A A) (aN A (fY 1 A A A) (aN A (bJ A A A (bA 1 A A)) (aN A (eY A A A) ?_)))))
 refine cH A (aH (z:=jI 0) (s:=1) (cs:=(mI [(1+n.ins)+b.it])) A z8 A V A F A) ?_
 intro g9
 refine bG 1 A ?_
 refine cW (dE ?_)
 exact cK (bM (post:=[rowE 3 1 (.slice (some ⟨g9,0,none⟩) 1 1) 1 (mI [(1+n.ins)+b.it])]) A A (eA [0] A) (by unfold outNd;first|(rw[if_pos (show ¬BkIn n b by assumption)]<;>rfl)|(rw[if_neg (not_not_intro (show BkIn n b by assumption)),if_pos O]<;>rfl)|(rw[if_neg (not_not_intro (show BkIn n b by assumption)),if_neg O,if_pos O]<;>rfl)|(rw[if_neg (not_not_intro (show BkIn n b by assumption)),if_neg O,if_neg O,if_pos O]<;>rfl)|(rw[if_neg (not_not_intro (show BkIn n b by assumption)),if_neg O,if_neg O,if_neg O]<;>rfl)))
 refine bG 1 A (jQ A (eB (kE ?_)))
 have B:BkIn n b:=I
 have U:∀k,k<b.es.length→LeIn n (b.es.getD k le0):=by rcases B with⟨D,h,G⟩|⟨D,h,G⟩|⟨D,h,G⟩|⟨D,h⟩<;>first|omega|exact fun q hq=>(h q hq).1
 refine bG 1 A (bS ?_)
 refine iG (α:=Nat) (β:=Value) [0,1,2,3,4,11,14,15,21,24] A (fun k X=>[rowE 3 1 X ((outL n b.es k).length) (mI (outL n b.es k)),boxE b2 #[jI b.kd,jI b.it,b.bv] 136,boxE b1 #[jI n.ins,n.sv,n.lv,n.ov] 108]) (fun k X=>[(5,X),(6,jI (k:Int))]) (fun k X=>k≤b.es.length) (fun k X=>b.es.length-k) 0 _ (Nat.zero_le _) (bV A) (cZ A) ?_
 intro k X a0
 have hk:=a0
 have ai:=qK n b.es k
 refine aG (aG (cN 1 A (aN A (fY 2 A A A) (aN A (bJ A A A (bA 1 A A)) (aN A (eV A A A (aE E)) ?_)))))
 refine aW A A A A A A (fun a6=>?_) (fun a6=>?_)
 refine dL (aR A (eC (jR ?_)))
 have a1:=U k O
 refine eI A 9 [0,1,2,3,4,5,6,7,8] (List.take 9 _) (List.drop 9 _) [[],[],[],[2],[],[3,4],[5],[1,6],[7]] [40,41,42,43,44,45,46,47,48] (fun i_ aj J K=>match i_ with|0=>J=X∧K=[]|1=>J=.agg #[jI n.ins,n.sv,n.lv,n.ov]∧K=[]|2=>J=.pointer (some ⟨b2,0+2,none⟩)∧K=[]|3=>J=b.bv∧K=[]|4=>J=jI (k:Int)∧K=[]|5=>J=elP b.bv ((k:Int).toNat*2)∧K=[]|6=>J=.agg #[jI ((b.es.getD k le0).u),jI ((b.es.getD k le0).f)]∧K=[]|7=>J=jI (outK n (b.es.getD k le0))∧K=[]|8=>IsRow 3 1 1 (mI [outK n (b.es.getD k le0)]) J K|_=>True) (take_append_drop 9 _).symm F F A A ?_ ?_
 refine⟨?_,?_,?_,?_,?_,?_,?_,?_,?_,trivial⟩
 intro vf M e
 exact fG A (aD [5] A) (aK (aU A))
 intro vf M e
 exact eH A (aD [2] A) (aK (aP (cs:=[jI n.ins,n.sv,n.lv,n.ov]) A A A A A (aM 2 A 0 A)))
 intro vf M e
 exact fG A (aD [3] A) (aK (fY 2 A A A))
 intro vf M e
 have e2:=e 2 V
 exact eH A (aX 42 e2.1 (aA _)) (aK (bJ A A A (bA 1 A A)))
 intro vf M e
 exact fG A (aD [6] A) (aK (aU A))
 intro vf M e
 have e3:=e 3 V
 have e4:=e 4 V
 exact eH A (aX 43 e3.1 (aX 44 e4.1 (aA _))) (aK (cV 2 A A A A (aE E)))
 intro vf M e
 have e5:=e 5 V
 exact eH A (aX 45 e5.1 (aA _)) (aK (cO (us:=[jI ((b.es.getD k le0).u),jI ((b.es.getD k le0).f)]) A A A A (aE E) O A (dQ leC 2 (fun _=>A) b.es le0 (show k<_ by omega) A)))
 intro vf M e
 have e1:=e 1 V
 have e6:=e 6 V
 exact eH A (aX 41 e1.1 (aX 46 e6.1 (aA _))) (aF A A (fun w hm=>aI (nA n (b.es.getD k le0) w (Z.below hm.bel) Y a1)))
 intro vf M e
 have e7:=e 7 V
 exact eH A (aX 47 e7.1 (aA _)) (aH (z:=jI 0) (s:=1) (cs:=(mI [outK n (b.es.getD k le0)])) A z8 A V A F A)
 intro vf M e
 have e0:=e 0 V
 obtain⟨ak,a2,a7⟩:=e 8 V
 have q0:=e 0 V
 have q1:=e 1 V
 have q2:=e 2 V
 have q3:=e 3 V
 have q4:=e 4 V
 have q5:=e 5 V
 have q6:=e 6 V
 have q7:=e 7 V
 refine cL (bE [37,24,21,15,14,11,6,5,4,3,2,1,0] _ (aX 40 e0.1 (aX 48 a2 (aA _))) A) (by simp only[a7,a2,q0.2,q1.2,q2.2,q3.2,q4.2,q5.2,q6.2,q7.2,fS]<;>rfl) ?_
 simp only[drop_succ_cons,drop_zero]
 refine bT (i:=1) (z:=jI 0) (bytes:=8) A A A A z8 F A A A A (aB 0 A) (bI _) AD (bK (outL n b.es k) ([outK n (b.es.getD k le0)])) (cB (outL n b.es k) ([outK n (b.es.getD k le0)])) (fun _=>A) ?_
 intro a8
 refine eS 1 A (eB (cN 1 A (aN A (eY A A A) ?_)))
 have B:BkIn n b:=I
 have U:∀k,k<b.es.length→LeIn n (b.es.getD k le0):=by rcases B with⟨D,h,G⟩|⟨D,h,G⟩|⟨D,h,G⟩|⟨D,h⟩<;>first|omega|exact fun q hq=>(h q hq).1
 refine eS 1 A ?_
 exact bO (k+1) a8 O O (bV A) (eA [1,0,0] A)
 refine dL (aV A ?_)
 refine bW (fM ?_)
 refine aO (bB (cF 2 A ?_))
 refine cW ?_
 have a9:k=b.es.length:=O
 exact bM (post:=[rowE 3 1 X ((outL n b.es k).length) (mI (outL n b.es k))]) A A (eA [0] A) (by rw[a9];unfold outNd;rw[if_neg (not_not_intro (show BkIn n b by assumption)),if_neg O,if_neg O,if_neg O])
 have a4:=lB h4
 refine bG 1 A (aR A (cF 2 A ?_))
 refine cW (cK ?_)
 exact bM (post:=[rowE 3 1 (.slice (some ⟨g3,0,none⟩) 0 0) 0 ([])]) A A (eA [0] A) (by unfold outNd;first|(rw[if_pos (show ¬BkIn n b by assumption)]<;>rfl)|(rw[if_neg (not_not_intro (show BkIn n b by assumption)),if_pos O]<;>rfl)|(rw[if_neg (not_not_intro (show BkIn n b by assumption)),if_neg O,if_pos O]<;>rfl)|(rw[if_neg (not_not_intro (show BkIn n b by assumption)),if_neg O,if_neg O,if_pos O]<;>rfl)|(rw[if_neg (not_not_intro (show BkIn n b by assumption)),if_neg O,if_neg O,if_neg O]<;>rfl))
theorem Br (n:Ln) (b:Bk) (w:World) (K:RdsLn w n) (J:LnOk n) (M:RdsW w b.bv 2 b.es.length (b.es.flatMap leC)) (Y:b.es.length≤100) :
   Calls Tryz.prog 135 #[.agg #[.int .i64 n.ins,n.sv,n.lv,n.ov],.agg #[.int .i64 b.kd,.int .i64 b.it,b.bv]] w (Ans w (.bool (pB (BlP n b)))):=by
 have a9:=vV K.ou
 have aa:=K.sq.small
 have ab:=K.lt.small
 have a6:n.cnt=1+n.ins+n.ss.length+n.ls.length:=rfl
 have a7:n.fst=1+n.ins+n.ss.length:=rfl
 obtain⟨⟨ac,ad⟩,s2,s3,s4⟩:=J.sz
 have ae:=M.one
 refine aY (N:=48) (args:=[.agg #[jI n.ins,n.sv,n.lv,n.ov],.agg #[jI b.kd,jI b.it,b.bv]]) Tryz.func135 A A (dW ?_)
 refine cU A (cE A A) fun b1=>?_
 refine cU A (cE A A) fun b2=>go ?_
 refine cM A (aF A A (fun w X=>aI (nB n b w (K.below X.bel) J (M.below X.bel) Y))) (bD (fun h3=>go ?_) (fun h3=>go ?_))
 have a0:=nH h3
 refine bZ A A A A A A (fun h4=>go ?_) (fun h4=>go ?_)
 have U:BkIn n b:=I
 have Z:∀k,k<b.es.length→LeIn n (b.es.getD k le0):=by rcases U with⟨B,e,D⟩|⟨B,e,D⟩|⟨B,e,D⟩|⟨B,e⟩<;>first|omega|exact fun q hq=>(e q hq).1
 refine bZ A A A A A A (fun h5=>go ?_) (fun h5=>go ?_)
 refine cM A (aF A A (fun w X=>aI (hI (b.es.length:Int) 1 2 w))) (bD (fun h6=>go ?_) (fun h6=>go ?_))
 obtain⟨a1,af⟩:=(dA _ _ _).1 h6
 refine fF A A A (aF A A (fun w X=>nV n b.es _ w (K.below X.bel) J (M.below X.bel) Y Z)) fun v7 p8 R9=>?_
 subst R9
 refine go ?_
 refine iA A A A A A A (fun a2=>go ?_) (fun a2=>go ?_)
 exact aT A A (congrArg _ (gJ ⟨I,fun _=>by first|omega|exact⟨O,⟨O,O⟩,O⟩,fun _=>by first|omega|exact⟨O,fun _=>O⟩⟩).symm)
 exact aT A A (congrArg _ (fA (fun E=>by obtain⟨B,e,D⟩:=E;first|exact absurd B I|(have:=e O;omega)|(have G:=D O;have:=G.2;omega))).symm)
 have a1:=jW h6
 exact aT A A (congrArg _ (fA (fun E=>by obtain⟨B,e,D⟩:=E;first|exact absurd B I|(have:=e O;omega)|(have G:=D O;have:=G.2;omega))).symm)
 exact aT A A (congrArg _ (fA (fun E=>by obtain⟨B,e,D⟩:=E;first|exact absurd B I|(have:=e O;omega)|(have G:=D O;have:=G.2;omega))).symm)
 have U:BkIn n b:=I
 have ag:(b.kd=0→0≤b.it∧b.it<n.ins)∧(b.kd=1→0≤b.it∧b.it<n.os.length)∧(b.kd=2→0≤b.it∧b.it<n.ss.length):=by rcases U with⟨B,e,D⟩|⟨B,e,D⟩|⟨B,e,D⟩|⟨B,e⟩<;>omega
 have a8:b.kd=2→SqOk (n.ss.getD b.it.toNat sq0):=fun h=>(J.sq b.it.toNat O).1
 refine bZ A A A A A A (fun a3=>go ?_) (fun a3=>go ?_)
 refine jY A A A A A A (fun a4=>go ?_) (fun a4=>go ?_)
 exact aT A A (congrArg _ (gJ ⟨I,fun _=>by first|omega|exact⟨O,⟨O,O⟩,O⟩,fun _=>by first|omega|exact⟨O,fun _=>O⟩⟩).symm)
 refine aN A (cV 3 A A A A (aE ((K).sq.row))) (aN A (bR (k0:=0) A A A (aE ((K).sq.row)) O) ?_)
 refine aN A (aL (u:=jI ((n.ss.getD (b.it.toNat) sq0).kd)) A A A (aE ((K).sq.row)) ((dC sqC 3 (fun _=>A) n.ss sq0 (show b.it.toNat<_ by omega) V).trans A)) (bZ A A A A A A (fun a5=>go ?_) (fun a5=>go ?_))
 exact aT A A (congrArg _ (gJ ⟨I,fun _=>by first|omega|exact⟨O,⟨O,O⟩,O⟩,fun _=>by first|omega|exact⟨O,fun _=>O⟩⟩).symm)
 exact aT A A (congrArg _ (fA (fun E=>by obtain⟨B,e,D⟩:=E;first|exact absurd B I|(have:=e O;omega)|(have G:=D O;have:=G.2;omega))).symm)
 exact aT A A (congrArg _ (fA (fun E=>by obtain⟨B,e,D⟩:=E;first|exact absurd B I|(have:=e O;omega)|(have G:=D O;have:=G.2;omega))).symm)
 have a0:=lB h3
 exact aT A A (congrArg _ (fA (fun E=>by obtain⟨B,e,D⟩:=E;first|exact absurd B I|(have:=e O;omega)|(have G:=D O;have:=G.2;omega))).symm)
theorem uT (b:Bool) (w:World)  :
   Calls Tryz.prog 25 #[.bool b] w (Ans w (.int .i64 (if b=true then 1 else 0))):=by
 refine aY (N:=4) (args:=[.bool b]) Tryz.func25 A A (cF 1 A (aG (aG (cN 1 A ?_))))
 refine bD (fun e=>go ?_) (fun e=>go ?_)
 exact aT A A (by first|rfl|(cases b<;>first|rfl|(exfalso;simp_all;done)))
 exact aT A A (by first|rfl|(cases b<;>first|rfl|(exfalso;simp_all;done)))
theorem vY (n:Ln) (a b:Le) (w:World) (X:RdsLn w n) (D:LnOk n) (ha:LeIn n a) (hb:LeIn n b) :
   Calls Tryz.prog 134 #[.agg #[.int .i64 n.ins,n.sv,n.lv,n.ov],.agg #[.int .i64 a.u,.int .i64 a.f],.agg #[.int .i64 b.u,.int .i64 b.f]] w (Ans w (.int .i64 (comK n a b))):=by
 have ac:=vV X.ou
 have ad:=X.sq.small
 have ae:=X.lt.small
 have aa:n.cnt=1+n.ins+n.ss.length+n.ls.length:=rfl
 have ab:n.fst=1+n.ins+n.ss.length:=rfl
 obtain⟨⟨af,ag⟩,s2,s3,s4⟩:=D.sz
 have ah:=tJ D ha
 have ai:=tJ D hb
 have a1:=xS (insK n a++[outK n a]) []
 rw[length_append,length_singleton] at a1
 refine aY (N:=46) (args:=[.agg #[jI n.ins,n.sv,n.lv,n.ov],.agg #[jI a.u,jI a.f],.agg #[jI b.u,jI b.f]]) Tryz.func134 A A (dW ?_)
 refine cU A (cE A A) fun b1=>?_
 refine cU A (cE A A) fun b2=>?_
 refine cU A (cE A A) fun b3=>go ?_
 refine eI A 7 [0,1,2,3,4,5,6] (List.take 7 _) (List.drop 7 _) [[],[],[0,1],[],[],[3,4],[5]] [11,12,13,14,15,16,17] (fun i_ a2 E G=>match i_ with|0=>E=.agg #[jI n.ins,n.sv,n.lv,n.ov]∧G=[]|1=>E=.agg #[jI a.u,jI a.f]∧G=[]|2=>(fun v' post=>post=[rI9 3 v' (insK n a)]) E G|3=>E=.agg #[jI n.ins,n.sv,n.lv,n.ov]∧G=[]|4=>E=.agg #[jI a.u,jI a.f]∧G=[]|5=>E=jI (outK n a)∧G=[]|6=>IsRow 3 1 1 (mI [outK n a]) E G|_=>True) (take_append_drop 7 _).symm F F A A ?_ ?_
 refine⟨?_,?_,?_,?_,?_,?_,?_,trivial⟩
 intro vf B e
 exact eH A (aD [3] A) (aK (aP (cs:=[jI n.ins,n.sv,n.lv,n.ov]) A A A A A (aM 2 A 0 A)))
 intro vf B e
 exact eH A (aD [4] A) (aK (aP (cs:=[jI a.u,jI a.f]) A A A A A (aM 1 A 0 A)))
 intro vf B e
 have e0:=e 0 V
 have e1:=e 1 V
 exact eH A (aX 11 e0.1 (aX 12 e1.1 (aA _))) (aF A A (fun w K=>pO n a w (X.below K.bel) D ha))
 intro vf B e
 exact eH A (aD [3] A) (aK (aP (cs:=[jI n.ins,n.sv,n.lv,n.ov]) A A A A A (aM 2 A 0 A)))
 intro vf B e
 exact eH A (aD [4] A) (aK (aP (cs:=[jI a.u,jI a.f]) A A A A A (aM 1 A 0 A)))
 intro vf B e
 have e3:=e 3 V
 have e4:=e 4 V
 exact eH A (aX 14 e3.1 (aX 15 e4.1 (aA _))) (aF A A (fun w K=>aI (nA n a w (X.below K.bel) D ha)))
 intro vf B e
 have e5:=e 5 V
 exact eH A (aX 16 e5.1 (aA _)) (aH (z:=jI 0) (s:=1) (cs:=(mI [outK n a])) A z8 A V A F A)
 intro vf B e
 obtain⟨v4,J⟩:=dU (vf 2)
 obtain⟨p5,M⟩:=dU (B 2)
 have R6:=e 2 V
 rw[J,M] at R6
 subst R6
 obtain⟨g7,U,Y⟩:=e 6 V
 have q0:=e 0 V
 have q1:=e 1 V
 have q3:=e 3 V
 have q4:=e 4 V
 have q5:=e 5 V
 refine cL (bE [6,5,4,3,2,1,0] _ (aX 13 J (aX 17 U (aA _))) A) (by simp only[M,J,Y,U,q0.2,q1.2,q3.2,q4.2,q5.2,fS]<;>rfl) ?_
 simp only[drop_succ_cons,drop_zero]
 refine bT (i:=0) (z:=jI 0) (bytes:=8) A A A A z8 F A A A A (aB 1 A) (bI _) AD (bK (insK n a) ([outK n a])) (cB (insK n a) ([outK n a])) (fun _=>A) fun v8=>go ?_
 refine eI A 7 [0,1,2,3,4,5,6] (List.take 7 _) (List.drop 7 _) [[],[],[0,1],[],[],[3,4],[5]] [19,20,21,22,23,24,25] (fun i_ a2 E G=>match i_ with|0=>E=.agg #[jI n.ins,n.sv,n.lv,n.ov]∧G=[]|1=>E=.agg #[jI b.u,jI b.f]∧G=[]|2=>(fun v' post=>post=[rI9 3 v' (insK n b)]) E G|3=>E=.agg #[jI n.ins,n.sv,n.lv,n.ov]∧G=[]|4=>E=.agg #[jI b.u,jI b.f]∧G=[]|5=>E=jI (outK n b)∧G=[]|6=>IsRow 3 1 1 (mI [outK n b]) E G|_=>True) (take_append_drop 7 _).symm F F A A ?_ ?_
 refine⟨?_,?_,?_,?_,?_,?_,?_,trivial⟩
 intro vf B e
 exact eH A (aD [3] A) (aK (aP (cs:=[jI n.ins,n.sv,n.lv,n.ov]) A A A A A (aM 4 A 0 A)))
 intro vf B e
 exact eH A (aD [5] A) (aK (aP (cs:=[jI b.u,jI b.f]) A A A A A (aM 2 A 0 A)))
 intro vf B e
 have e0:=e 0 V
 have e1:=e 1 V
 exact eH A (aX 19 e0.1 (aX 20 e1.1 (aA _))) (aF A A (fun w K=>pO n b w (X.below K.bel) D hb))
 intro vf B e
 exact eH A (aD [3] A) (aK (aP (cs:=[jI n.ins,n.sv,n.lv,n.ov]) A A A A A (aM 4 A 0 A)))
 intro vf B e
 exact eH A (aD [5] A) (aK (aP (cs:=[jI b.u,jI b.f]) A A A A A (aM 2 A 0 A)))
 intro vf B e
 have e3:=e 3 V
 have e4:=e 4 V
 exact eH A (aX 22 e3.1 (aX 23 e4.1 (aA _))) (aF A A (fun w K=>aI (nA n b w (X.below K.bel) D hb)))
 intro vf B e
 have e5:=e 5 V
 exact eH A (aX 24 e5.1 (aA _)) (aH (z:=jI 0) (s:=1) (cs:=(mI [outK n b])) A z8 A V A F A)
 intro vf B e
 obtain⟨v9,J⟩:=dU (vf 2)
 obtain⟨aj,M⟩:=dU (B 2)
 have Z:=e 2 V
 rw[J,M] at Z
 subst Z
 obtain⟨a3,U,Y⟩:=e 6 V
 have q0:=e 0 V
 have q1:=e 1 V
 have q3:=e 3 V
 have q4:=e 4 V
 have q5:=e 5 V
 refine cL (bE [7,6,5,4,3,2,1,0] _ (aX 21 J (aX 25 U (aA _))) A) (by simp only[M,J,Y,U,q0.2,q1.2,q3.2,q4.2,q5.2,fS]<;>rfl) ?_
 simp only[drop_succ_cons,drop_zero]
 refine bT (i:=0) (z:=jI 0) (bytes:=8) A A A A z8 F A A A A (aB 1 A) (bI _) AD (bK (insK n b) ([outK n b])) (cB (insK n b) ([outK n b])) (fun _=>A) fun a4=>go ?_
 refine cH A (bU (s:=1) A z8 A) fun a5=>?_
 refine fF A A A (aF A A (fun w K=>mZ ((insK n a)++([outK n a])) [] _ _ w ((aB 3 A) w K) ⟨_,_,A,A,⟨V,V⟩,fun h=>absurd h V⟩ (by simp only[length_append,length_singleton];omega) V)) fun a6 ak a7=>?_
 subst a7
 refine go ?_
 refine iG (α:=Nat) (β:=Int) [0,1,2,3,4,5,6,7,8] A (fun i c=>[rowE 3 1 a6 ((setK ((insK n a)++([outK n a])) []).length) (mI (setK ((insK n a)++([outK n a])) [])),rowE 3 1 (.slice (some ⟨a5,0,none⟩) 0 0) 0 ([]),rowE 3 1 a4 (((insK n b)++([outK n b])).length) (mI ((insK n b)++([outK n b]))),rowE 3 1 (.slice (some ⟨a3,0,none⟩) 1 1) 1 (mI [outK n b]),rowE 3 1 v8 (((insK n a)++([outK n a])).length) (mI ((insK n a)++([outK n a]))),rowE 3 1 (.slice (some ⟨g7,0,none⟩) 1 1) 1 (mI [outK n a]),boxE b3 #[jI b.u,jI b.f] 166,boxE b2 #[jI a.u,jI a.f] 166,boxE b1 #[jI n.ins,n.sv,n.lv,n.ov] 108]) (fun i c=>[(9,jI c),(10,jI (i:Int))]) (fun i c=>i≤(setK (insK n a++[outK n a]) []).length∧c=comL (setK (insK n a++[outK n a]) []) (insK n b++[outK n b]) i) (fun i c=>(setK (insK n a++[outK n a]) []).length-i) 0 0 ⟨Nat.zero_le _,A⟩ (bV A) (cZ A) fun i c a0=>go ?_
 obtain⟨hi,hc⟩:=a0
 have al:=Bg (setK (insK n a++[outK n a]) []) (insK n b++[outK n b]) i
 refine aW A A A A A A (fun a8=>go ?_) (fun a8=>go ?_)
 refine aN A (cV 1 A A A A (aB 0 A)) (aN A (aL (u:=jI ((setK ((insK n a)++([outK n a])) []).getD i 0)) A A A (aB 0 A) (cJ (show _<(setK ((insK n a)++([outK n a])) []).length by omega))) ?_)
 refine cM A (aF A A (fun w K=>aI (gU ((insK n b)++([outK n b])) ((setK ((insK n a)++([outK n a])) []).getD i 0) _ w ((aB 2 A) w K) (by first|omega|(simp only[length_append,length_singleton];omega))))) (bD (fun a9=>?_) (fun a9=>?_))
 refine cM rfl (aF rfl rfl (fun w K=>aI (show Calls _ _ _ w (Ans w (jI 1)) from uT true w))) (go ?_)
 exact bO (i+1) _ ⟨O,by rw[hc];show _=comL (setK (insK n a++[outK n a]) []) (insK n b++[outK n b]) i+(if _ then _ else _);first|rfl|(rw[if_pos I];done)|(rw[if_neg (by rw[Bool.not_eq_true];assumption)];done)⟩ O (bV rfl) (cZ rfl)
 refine cM rfl (aF rfl rfl (fun w K=>aI (show Calls _ _ _ w (Ans w (jI 0)) from uT false w))) (go ?_)
 exact bO (i+1) _ ⟨O,by rw[hc];show _=comL (setK (insK n a++[outK n a]) []) (insK n b++[outK n b]) i+(if _ then _ else _);first|rfl|(rw[if_pos I];done)|(rw[if_neg (by rw[Bool.not_eq_true];assumption)];done)⟩ O (bV rfl) (cZ rfl)
 exact aT A A (by rw[hc,show i=(setK (insK n a++[outK n a]) []).length by omega];rfl)
theorem Cx (n:Ln) (w:World) (e:RdsLn w n) (D:LnOk n) :
   Calls Tryz.prog 132 #[.agg #[.int .i64 n.ins,n.sv,n.lv,n.ov]] w (Ret w (fun v' post=>∃es:List Le,post=[rS9 166 2 v' es leC]∧LesIn n es∧es.length≤412)):=by
 have aa:=vV e.ou
 have ab:=e.sq.small
 have ac:=e.lt.small
 have a7:n.cnt=1+n.ins+n.ss.length+n.ls.length:=rfl
 have a8:n.fst=1+n.ins+n.ss.length:=rfl
 obtain⟨⟨ad,ae⟩,s2,s3,s4⟩:=D.sz
 have af:=Dp n
 refine aY (N:=87) (args:=[.agg #[jI n.ins,n.sv,n.lv,n.ov]]) Tryz.func132 A A (dW ?_)
 refine cU A (cE A A) ?_
 intro U
 refine bG 1 A (dW ?_)
 refine cH A (bU (s:=2) A Tryz.underlying134 A) ?_
 intro g2
 refine bG 1 A (dW (aN A (aP (cs:=[jI n.ins,n.sv,n.lv,n.ov]) A A A A A (aM 1 A 0 A)) ?_))
 refine fF A A A (aF A A (fun w X=>kU n w (e.below X.bel) D)) ?_
 intro v3 p4 R5
 subst R5
 refine bG 1 A (dW (aN A (fY 2 A A A) (aN A (bJ A A A (bA 2 A A)) (aN A (eV A A A (aE ((e).lt.row))) ?_))))
 refine cH A (fB (z:=.bool false) (s:=1) (bytes:=1) (n:=(replicate n.ls.length bl0).length) (cs:=((replicate n.ls.length bl0).flatMap blC)) A Tryz.underlying61 A V A A AB AB AF (fZ blC 1 (fun _=>A) bl0 _ A n.ls.length)) ?_
 intro g6
 refine bG 1 A (aG (cF 1 A (bS ?_)))
 refine mS (α:=Nat) (β:=Value) (γ:=List Le) (δ:=List Bl) [0,1,2,4,5] A (fun i J es h=>[rS9 4 1 (.slice (some ⟨g6,0,none⟩) ((replicate n.ls.length bl0).length) ((replicate n.ls.length bl0).length)) h blC,rowE 3 1 v3 ((usK n).length) (mI (usK n)),rS9 166 2 J es leC,boxE U #[jI n.ins,n.sv,n.lv,n.ov] 108]) (fun i J es h=>[(3,J),(6,jI (i:Int))]) (fun i J es h=>i≤n.ss.length∧es.length≤i∧LesIn n es∧h.length=n.ls.length) (fun i J es h=>n.ss.length-i) 0 _ [] (replicate n.ls.length bl0) ⟨Nat.zero_le _,Nat.le_refl _,LesIn.nil _,length_replicate⟩ (bV A) (cZ A) ?_
 intro i J es h Y
 obtain⟨hi,ag,E,ah⟩:=Y
 refine aG (aG (cN 1 A (aN A (fY 1 A A A) (aN A (bJ A A A (bA 3 A A)) (aN A (eV A A A (aE ((e).sq.row))) ?_)))))
 refine aW A A A A A A (fun h8=>?_) (fun h8=>?_)
 refine dL (aR A (eC (jR (kE (aN A (fY 1 A A A) (aN A (bJ A A A (bA 3 A A)) (aS 1 A ?_)))))))
 refine aN A (cV 3 A A A A (aE ((e).sq.row))) (aN A (bR (k0:=0) A A A (aE ((e).sq.row)) O) ?_)
 refine aN A (aL (u:=jI ((n.ss.getD i sq0).kd)) A A A (aE ((e).sq.row)) ((dC sqC 3 (fun _=>A) n.ss sq0 (show i<_ by omega) V).trans A)) (jY A A A A A A (fun h9=>?_) (fun h9=>?_))
 refine dL (aR A ?_)
 refine bW (dB ?_)
 refine aO (bB (cN 1 A (aN A (eY A A A) (eS 1 A ?_))))
 exact dH (i+1) J es h ⟨O,by(try rw[length_append,length_singleton]);omega,by first|assumption|exact E.app (oR O),by first|assumption|(rw[length_set];assumption)⟩ O (bV rfl) (cZ rfl)
 refine(cP (bB (aV A (gP (bB (aG (bP (aS 1 A (aN A (dG (cs:=#[jI (-1),jI (i:Int)]) A A A) ?_)))))))))
 refine cU A (bY (z:=.agg #[jI 0,jI 0]) A A) ?_
 intro ai
 refine cA (cs':=#[jI (-1),jI (i:Int)]) (i:=0) (off:=0) (us:=[jI (-1),jI (i:Int)]) A A A A A A A (aC A (aC A bH)) A A A (dL (aG ?_))
 have a9:=(D.sq i O).1.kind
 have aj:=(D.sq i O).2 0 O
 refine bL 11 [[],[0],[],[1,2],[3],[4],[5],[6],[],[8],[7,9]] [33,34,35,36,37,38,39,40,41,42,43] [.pointer (some ⟨U,0+1,none⟩),n.sv,jI (i:Int),elP n.sv ((i:Int).toNat*3),elP n.sv ((i:Int).toNat*3+2),(n.ss.getD i sq0).iv,elP ((n.ss.getD i sq0).iv) ((0:Int).toNat*1),jI (((n.ss.getD i sq0).xs).getD 0 0),.agg #[jI n.ins,n.sv,n.lv,n.ov],jI n.fst,jI ((((n.ss.getD i sq0).xs).getD 0 0)-n.fst)] F A ?_ ?_
 exact⟨aJ,aJ,aJ,fL A (cV 3 A A A A (aE ((e).sq.row))) A,fL A (bR (k0:=2) A A A (aE ((e).sq.row)) O) A,fL A (aL (u:=(n.ss.getD i sq0).iv) A A A (aE ((e).sq.row)) ((dC sqC 3 (fun _=>A) n.ss sq0 (show i<_ by omega) V).trans A)) A,fL A (cV 1 A A A A (aE ((e).sq.at (d:=sq0) (k:=i) O))) A,fL A (aL (u:=jI (((n.ss.getD i sq0).xs).getD 0 0)) A A A (aE ((e).sq.at (d:=sq0) (k:=i) O)) (cJ (show _<((n.ss.getD i sq0).xs).length by omega))) A,aJ,.inl ⟨A,aF A A (fun w X=>aI (iI n w (e.below X.bel) D.sz))⟩,aJ,trivial⟩
 simp only[drop_succ_cons,drop_zero]
 refine bG 1 A (aG (aG (cN 1 A ?_)))
 refine eK A A A A A A (fun Z=>?_) (fun Z=>?_)
 refine aS 2 A (aN A (fY 1 A A A) (aN A (bJ A A A (bA 4 A A)) (aS 1 A (aN A (cV 3 A A A A (aE ((e).sq.row))) (aN A (bR (k0:=2) A A A (aE ((e).sq.row)) O) ?_)))))
 refine aN A (aL (u:=(n.ss.getD i sq0).iv) A A A (aE ((e).sq.row)) ((dC sqC 3 (fun _=>A) n.ss sq0 (show i<_ by omega) V).trans A)) (aN A (cV 1 A A A A (aE ((e).sq.at (d:=sq0) (k:=i) O))) (aN A (aL (u:=jI (((n.ss.getD i sq0).xs).getD 0 0)) A A A (aE ((e).sq.at (d:=sq0) (k:=i) O)) (cJ (show _<((n.ss.getD i sq0).xs).length by omega))) (aN A (cV 1 A A A A (aB 2 A)) (aN A (aL (u:=jI ((usK n).getD ((((n.ss.getD i sq0).xs).getD 0 0).toNat) 0)) A A A (aB 2 A) (cJ (show _<(usK n).length by omega))) ?_))))
 refine bZ A A A A A A (fun a0=>?_) (fun a0=>?_)
 refine bG 1 A (aR A (aG (cN 1 A (aN A (fY 0 A A A) ?_))))
 refine gB (i:=0) (cs':=#[jI ((((n.ss.getD i sq0).xs).getD 0 0)-n.fst),jI (i:Int)]) A A A A A A A A A A A (dL (cN 2 A (aN A (cV 1 A A A A (aB 1 A)) ?_)))
 refine dS (i:=1) (n':=(h.set (((((n.ss.getD i sq0).xs).getD 0 0)-n.fst).toNat) { h.getD (((((n.ss.getD i sq0).xs).getD 0 0)-n.fst).toNat) bl0 with b:=true }).length) A A A A A A A A AA List.length_set.symm (eF blC (fun r=>.bool r.b) (fun _=>A) _ ({ h.getD (((((n.ss.getD i sq0).xs).getD 0 0)-n.fst).toNat) bl0 with b:=true }) A) A (cP (bB (bP (aS 1 A (aN A (aP (cs:=[jI ((((n.ss.getD i sq0).xs).getD 0 0)-n.fst),jI (i:Int)]) A A A A A (aM 0 A 0 A)) ?_)))))
 refine cH A (aH (z:=.agg #[jI 0,jI 0]) (s:=2) (cs:=(mI [(((n.ss.getD i sq0).xs).getD 0 0)-n.fst,(i:Int)])) A Tryz.underlying134 A V A F A) ?_
 intro ak
 refine bT (i:=4) (z:=.agg #[jI 0,jI 0]) (bytes:=16) A A A A Tryz.underlying134 F A A A A (aB 0 A) (bI _) AC (bK es [(Le.mk ((((n.ss.getD i sq0).xs).getD 0 0)-n.fst) (i:Int))]) (dP leC es (Le.mk ((((n.ss.getD i sq0).xs).getD 0 0)-n.fst) (i:Int)) _ A) (fun _=>A) ?_
 intro a1
 refine eS 1 A (eB (cN 1 A (aN A (eY A A A) (eS 1 A ?_))))
 exact dH (i+1) a1 (es++[(Le.mk ((((n.ss.getD i sq0).xs).getD 0 0)-n.fst) (i:Int))]) (h.set (((((n.ss.getD i sq0).xs).getD 0 0)-n.fst).toNat) { h.getD (((((n.ss.getD i sq0).xs).getD 0 0)-n.fst).toNat) bl0 with b:=true }) ⟨O,by(try rw[length_append,length_singleton]);omega,by first|assumption|exact E.app (oR O),by first|assumption|(rw[length_set];assumption)⟩ O (bV rfl) (eA [2,0,0,0] rfl)
 refine aS 1 A (cP (bB (aV A (gP (bB (bP (aS 1 A (aN A (aP (cs:=[jI (-1),jI (i:Int)]) A A A A A (aM 0 A 0 A)) ?_))))))))
 refine cH A (aH (z:=.agg #[jI 0,jI 0]) (s:=2) (cs:=(mI [-1,(i:Int)])) A Tryz.underlying134 A V A F A) ?_
 intro al
 refine bT (i:=4) (z:=.agg #[jI 0,jI 0]) (bytes:=16) A A A A Tryz.underlying134 F A A A A (aB 0 A) (bI _) AC (bK es [(Le.mk (-1) (i:Int))]) (dP leC es (Le.mk (-1) (i:Int)) _ A) (fun _=>A) ?_
 intro a2
 refine eS 1 A (eB (cN 1 A (aN A (eY A A A) (eS 1 A ?_))))
 exact dH (i+1) a2 (es++[(Le.mk (-1) (i:Int))]) h ⟨O,by(try rw[length_append,length_singleton]);omega,by first|assumption|exact E.app (oR O),by first|assumption|(rw[length_set];assumption)⟩ O (bV rfl) (eA [2,0,0,0] rfl)
 refine aS 14 A (?_)
 refine cP (bB (aV A (gP (bB (bP (aS 1 A (aN A (aP (cs:=[jI (-1),jI (i:Int)]) A A A A A (aM 0 A 0 A)) ?_)))))))
 refine cH A (aH (z:=.agg #[jI 0,jI 0]) (s:=2) (cs:=(mI [-1,(i:Int)])) A Tryz.underlying134 A V A F A) ?_
 intro am
 refine bT (i:=4) (z:=.agg #[jI 0,jI 0]) (bytes:=16) A A A A Tryz.underlying134 F A A A A (aB 0 A) (bI _) AC (bK es [(Le.mk (-1) (i:Int))]) (dP leC es (Le.mk (-1) (i:Int)) _ A) (fun _=>A) ?_
 intro a3
 refine eS 1 A (eB (cN 1 A (aN A (eY A A A) (eS 1 A ?_))))
 exact dH (i+1) a3 (es++[(Le.mk (-1) (i:Int))]) h ⟨O,by(try rw[length_append,length_singleton]);omega,by first|assumption|exact E.app (oR O),by first|assumption|(rw[length_set];assumption)⟩ O (bV rfl) (eA [2,0,0,0] rfl)
 refine dL (aV A ?_)
 refine bW (fM ?_)
 refine aO (bB (aG (cF 1 A (bS ?_))))
 refine fP (α:=Nat) (β:=Value) (γ:=List Le) [0,1,2,4,5,21] A (fun k G B=>[rS9 4 1 (.slice (some ⟨g6,0,none⟩) ((replicate n.ls.length bl0).length) ((replicate n.ls.length bl0).length)) h blC,rowE 3 1 v3 ((usK n).length) (mI (usK n)),rS9 166 2 G B leC,boxE U #[jI n.ins,n.sv,n.lv,n.ov] 108]) (fun k G B=>[(3,G),(9,jI (k:Int))]) (fun k G B=>k≤n.ls.length∧B.length≤n.ss.length+k∧LesIn n B) (fun k G B=>n.ls.length-k) 0 _ es ⟨Nat.zero_le _,O,E⟩ (bV A) (cZ A) ?_
 intro k G B K
 obtain⟨hk,an,M⟩:=K
 refine aG (aG (cN 1 A (aN A (fY 2 A A A) (aN A (bJ A A A (bA 3 A A)) (aN A (eV A A A (aE ((e).lt.row))) ?_)))))
 refine aW A A A A A A (fun a4=>?_) (fun a4=>?_)
 refine dL (aR A (eC (jR (aG (cN 2 A (aN A (cV 1 A A A A (aB 0 A)) ?_))))))
 refine aN A (aL (u:=.bool ((h.getD k bl0).b)) A A A (aB 0 A) (dF blC (fun r=>.bool r.b) (fun _=>A) h bl0 (show k<_ by omega))) (bD (fun a5=>?_) (fun a5=>?_))
 refine bG 1 A (jQ A (eB (cN 1 A (aN A (eY A A A) (eS 1 A ?_)))))
 exact aQ (k+1) G B ⟨O,by(try rw[length_append,length_singleton]);omega,by first|assumption|exact M.app (oR O)⟩ O (bV rfl) (cZ rfl)
 refine aS 1 A (cP (bB (aR A (bP (aS 2 A (aN A (dG (cs:=#[jI (k:Int),jI (-1)]) A A A) ?_))))))
 refine cH A (aH (z:=.agg #[jI 0,jI 0]) (s:=2) (cs:=(mI [(k:Int), -1])) A Tryz.underlying134 A V A F A) ?_
 intro ao
 refine bT (i:=3) (z:=.agg #[jI 0,jI 0]) (bytes:=16) A A A A Tryz.underlying134 F A A A A (aB 0 A) (bI _) AC (bK B [(Le.mk (k:Int) (-1))]) (dP leC B (Le.mk (k:Int) (-1)) _ A) (fun _=>A) ?_
 intro a6
 refine eS 1 A (eB (cN 1 A (aN A (eY A A A) (eS 1 A ?_))))
 exact aQ (k+1) a6 (B++[(Le.mk (k:Int) (-1))]) ⟨O,by(try rw[length_append,length_singleton]);omega,by first|assumption|exact M.app (oR O)⟩ O (bV rfl) (eA [1,0,0,0] rfl)
 refine dL (aV A ?_)
 refine bW (fM ?_)
 refine aO (bB (cF 2 A ?_))
 exact cW (bM (post:=[rS9 166 2 G B leC]) A A (eA [2] A) ⟨_,A,I,O⟩)
theorem Dm (n:Ln) (B:List Bk) (v:Value) (w:World) (E:RdsLn w n) (J:LnOk n) (D:RdsBk w v B) (a5:∀k,k<B.length→(B.getD k bk0).es.length≤100) :
   Calls Tryz.prog 113 #[.agg #[.int .i64 n.ins,n.sv,n.lv,n.ov],v] w (Ret w (fun u_ p_=>∃b:Bool,u_=.bool b∧p_=[]∧(b=true→B.length≤64∧∀k,k<B.length→BlP n (B.getD k bk0)))):=by
 have ax:=vV E.ou
 have ay:=E.sq.small
 have az:=E.lt.small
 have ar:n.cnt=1+n.ins+n.ss.length+n.ls.length:=rfl
 have au:n.fst=1+n.ins+n.ss.length:=rfl
 obtain⟨⟨b0,b2⟩,s2,s3,s4⟩:=J.sz
 have aw:=vV D.row
 refine aY (N:=141) (args:=[.agg #[jI n.ins,n.sv,n.lv,n.ov],v]) Tryz.func113 A A (dW ?_)
 refine cU A (cE A A) ?_
 intro U
 refine bG 1 A (kE (aN A (aP (cs:=[jI n.ins,n.sv,n.lv,n.ov]) A A A A A (aM 0 A 0 A)) ?_))
 refine cM A (aF A A (fun w hm=>aI (by have h9:=kF n w (E.below hm.bel);rw[gJ J] at h9;exact h9))) (aS 3 A (aN A (eV A A A (aE D.row)) ?_))
 refine fJ A A A A A A (fun h2=>?_) (fun h2=>?_)
 refine bG 1 A (aR A (cF 1 A ?_))
 refine cW (cK ?_)
 exact eQ (rs:=[.tmp 4]) (vs:=[.bool false]) (post:=[]) A ⟨A,trivial⟩ A (eA [] A) ⟨_,A,A,fun h=>by cases h⟩
 refine bG 1 A (aV A (eC (dW (aN A (fY 0 A A A) (aN A (bJ A A A (bA 0 A A)) ?_)))))
 refine cH A (fB (z:=jI 0) (s:=1) (bytes:=8) (n:=(replicate n.ins.toNat (0:Int)).length) (cs:=(mI (replicate n.ins.toNat (0:Int)))) A z8 A V A A AB AB AF (gW _)) ?_
 intro g3
 refine bG 1 A (dW (aN A (fY 3 A A A) (aN A (bJ A A A (bA 1 A A)) (aN A (eV A A A (aE ((E).ou))) ?_))))
 refine cH A (fB (z:=jI 0) (s:=1) (bytes:=8) (n:=(replicate n.os.length (0:Int)).length) (cs:=(mI (replicate n.os.length (0:Int)))) A z8 A V A A AB AB AF (gW _)) ?_
 intro X
 refine bG 1 A (dW (aN A (fY 1 A A A) (aN A (bJ A A A (bA 2 A A)) (aN A (eV A A A (aE ((E).sq.row))) ?_))))
 refine cH A (fB (z:=jI 0) (s:=1) (bytes:=8) (n:=(replicate n.ss.length (0:Int)).length) (cs:=(mI (replicate n.ss.length (0:Int)))) A z8 A V A A AB AB AF (gW _)) ?_
 intro g5
 refine bG 1 A (dW (aN A (fY 2 A A A) (aN A (bJ A A A (bA 3 A A)) (aN A (eV A A A (aE ((E).lt.row))) ?_))))
 refine cH A (fB (z:=jI 0) (s:=1) (bytes:=8) (n:=(replicate n.ls.length (0:Int)).length) (cs:=(mI (replicate n.ls.length (0:Int)))) A z8 A V A A AB AB AF (gW _)) ?_
 intro g6
 refine bG 1 A (aG (cF 1 A (bS ?_)))
 refine iG (α:=Nat) (β:=List Int×List Int×List Int×List Int) [0,1,2,4,5,6,7,8,21] A (fun i Z=>[rI9 3 (.slice (some ⟨g6,0,none⟩) ((replicate n.ls.length (0:Int)).length) ((replicate n.ls.length (0:Int)).length)) Z.2.2.2,rI9 3 (.slice (some ⟨g5,0,none⟩) ((replicate n.ss.length (0:Int)).length) ((replicate n.ss.length (0:Int)).length)) Z.2.2.1,rI9 3 (.slice (some ⟨X,0,none⟩) ((replicate n.os.length (0:Int)).length) ((replicate n.os.length (0:Int)).length)) Z.2.1,rI9 3 (.slice (some ⟨g3,0,none⟩) ((replicate n.ins.toNat (0:Int)).length) ((replicate n.ins.toNat (0:Int)).length)) Z.1,boxE U #[jI n.ins,n.sv,n.lv,n.ov] 108]) (fun i Z=>[(9,jI (i:Int))]) (fun i Z=>i≤B.length∧(∀q,q<i→BlP n (B.getD q bk0))∧Z.1.length=n.ins.toNat∧Z.2.1.length=n.os.length∧Z.2.2.1.length=n.ss.length∧Z.2.2.2.length=n.ls.length∧CntB Z.1 (10*i)∧CntB Z.2.1 (10*i)∧CntB Z.2.2.1 (10*i)∧CntB Z.2.2.2 (10*i)) (fun i Z=>B.length-i) 0 (replicate n.ins.toNat 0,replicate n.os.length 0,replicate n.ss.length 0,replicate n.ls.length 0) ⟨Nat.zero_le _,fun q hq=>absurd hq O,length_replicate,length_replicate,length_replicate,length_replicate,nZ _ _,nZ _ _,nZ _ _,nZ _ _⟩ (bV A) (cZ A) ?_
 intro i Z a6
 obtain⟨hi,G,b3,b4,b5,b6,a7,a8,a9,b7⟩:=a6
 refine aG (aG (cN 2 A (aN A (eV A A A (aE D.row)) ?_)))
 refine aW A A A A A A (fun h8=>?_) (fun h8=>?_)
 refine dL (aR A (eC (jR (aG (cN 2 A (aN A (cV 3 A A A A (aE D.row)) ?_))))))
 refine aN A (cO (us:=[jI ((B.getD i bk0).kd),jI ((B.getD i bk0).it),(B.getD i bk0).bv]) A A A A (aE D.row) O A (dQ bkC 3 (fun _=>A) B bk0 (show i<_ by omega) A)) (cU A (bY (z:=.agg #[jI 0,jI 0,.slice none 0 0]) A A) ?_)
 intro b9
 refine cA (cs':=#[jI ((B.getD i bk0).kd),jI ((B.getD i bk0).it),(B.getD i bk0).bv]) (i:=0) (off:=0) (us:=[jI ((B.getD i bk0).kd),jI ((B.getD i bk0).it),(B.getD i bk0).bv]) A A A A A A A (aC A (aC A (aC (D.at (k:=i) O).one bH))) A A A (dL (kE (aN A (aP (cs:=[jI n.ins,n.sv,n.lv,n.ov]) A A A A A (aM 5 A 0 A)) (aN A (aP (cs:=[jI ((B.getD i bk0).kd),jI ((B.getD i bk0).it),(B.getD i bk0).bv]) A A A A A (aM 0 A 0 A)) ?_))))
 refine cM A (aF A A (fun w hm=>aI (Br n (B.getD i bk0) w (E.below hm.bel) J ((D.at (k:=i) O).below hm.bel) (a5 i O)))) (bD (fun K=>?_) (fun K=>?_))
 have a0:=nH K
 refine bG 1 A (aV A (eC ?_))
 refine rA (α:=List Int×List Int×List Int) (fun Q=>[boxE b9 #[jI ((B.getD i bk0).kd),jI ((B.getD i bk0).it),(B.getD i bk0).bv] 136,rI9 3 (.slice (some ⟨g6,0,none⟩) ((replicate n.ls.length (0:Int)).length) ((replicate n.ls.length (0:Int)).length)) Z.2.2.2,rI9 3 (.slice (some ⟨g5,0,none⟩) ((replicate n.ss.length (0:Int)).length) ((replicate n.ss.length (0:Int)).length)) Q.2.2,rI9 3 (.slice (some ⟨X,0,none⟩) ((replicate n.os.length (0:Int)).length) ((replicate n.os.length (0:Int)).length)) Q.2.1,rI9 3 (.slice (some ⟨g3,0,none⟩) ((replicate n.ins.toNat (0:Int)).length) ((replicate n.ins.toNat (0:Int)).length)) Q.1,boxE U #[jI n.ins,n.sv,n.lv,n.ov] 108]) (fun Q=>[(0,.agg #[jI n.ins,n.sv,n.lv,n.ov]),(1,v),(2,pI U),(4,.bool false),(5,.slice (some ⟨g3,0,none⟩) ((replicate n.ins.toNat (0:Int)).length) ((replicate n.ins.toNat (0:Int)).length)),(6,.slice (some ⟨X,0,none⟩) ((replicate n.os.length (0:Int)).length) ((replicate n.os.length (0:Int)).length)),(7,.slice (some ⟨g5,0,none⟩) ((replicate n.ss.length (0:Int)).length) ((replicate n.ss.length (0:Int)).length)),(8,.slice (some ⟨g6,0,none⟩) ((replicate n.ls.length (0:Int)).length) ((replicate n.ls.length (0:Int)).length)),(9,jI (i:Int)),(10,pI b9),(21,.bool false),(40,.bool true),(50,.bool false)]) (fun Q=>Q.1.length=n.ins.toNat∧Q.2.1.length=n.os.length∧Q.2.2.length=n.ss.length∧CntB Q.1 (10*i+1)∧CntB Q.2.1 (10*i+1)∧CntB Q.2.2 (10*i+1)) ?_ ?_
 refine dW ?_
 have M:BlP n (B.getD i bk0):=I
 obtain⟨aa,ab,ac,ad,a1⟩:=M.rng
 have b8:=a7 (B.getD i bk0).it.toNat
 have ba:=a8 (B.getD i bk0).it.toNat
 have bb:=a9 (B.getD i bk0).it.toNat
 refine aN A (fY 0 A A A) (aN A (bJ A A A (bA 0 A A)) (dL (bS (dW ?_))))
 refine bZ A A A A A A (fun ae=>?_) (fun ae=>?_)
 refine bG 1 A (aR A (cN 1 A (aN A (fY 1 A A A) (aN A (bJ A A A (bA 0 A A)) (aN A (cV 1 A A A A (aB 4 A)) (aN A (lP A A A (aB 4 A)) (aN A (eY A A A) (aN A (cV 1 A A A A (aB 4 A)) ?_))))))))
 refine dS (i:=4) (n':=(Z.1.set (((B.getD i bk0).it).toNat) ((Z.1.getD (((B.getD i bk0).it).toNat) 0)+1)).length) (xs':=((Z.1.set (((B.getD i bk0).it).toNat) ((Z.1.getD (((B.getD i bk0).it).toNat) 0)+1)).map (Value.int .i64))) A A A A A A A A AA List.length_set.symm (eP _ _ _) A (cP (cG ?_))
 exact fV ((Z.1.set (((B.getD i bk0).it).toNat) ((Z.1.getD (((B.getD i bk0).it).toNat) 0)+1)),Z.2.1,Z.2.2.1) ⟨by first|assumption|(rw[length_set];assumption),by first|assumption|(rw[length_set];assumption),by first|assumption|(rw[length_set];assumption),by first|assumption|exact dD I O|exact dD (eL I) O,by first|assumption|exact dD I O|exact dD (eL I) O,by first|assumption|exact dD I O|exact dD (eL I) O⟩ (bV A) (cZ A)
 refine bG 1 A (aV A (dW ?_))
 refine bZ A A A A A A (fun af=>?_) (fun af=>?_)
 refine bG 1 A (aR A (cN 1 A (aN A (fY 1 A A A) (aN A (bJ A A A (bA 0 A A)) (aN A (cV 1 A A A A (aB 3 A)) (aN A (lP A A A (aB 3 A)) (aN A (eY A A A) (aN A (cV 1 A A A A (aB 3 A)) ?_))))))))
 refine dS (i:=3) (n':=(Z.2.1.set (((B.getD i bk0).it).toNat) ((Z.2.1.getD (((B.getD i bk0).it).toNat) 0)+1)).length) (xs':=((Z.2.1.set (((B.getD i bk0).it).toNat) ((Z.2.1.getD (((B.getD i bk0).it).toNat) 0)+1)).map (Value.int .i64))) A A A A A A A A AA List.length_set.symm (eP _ _ _) A (cP (cG ?_))
 exact fV (Z.1,(Z.2.1.set (((B.getD i bk0).it).toNat) ((Z.2.1.getD (((B.getD i bk0).it).toNat) 0)+1)),Z.2.2.1) ⟨by first|assumption|(rw[length_set];assumption),by first|assumption|(rw[length_set];assumption),by first|assumption|(rw[length_set];assumption),by first|assumption|exact dD I O|exact dD (eL I) O,by first|assumption|exact dD I O|exact dD (eL I) O,by first|assumption|exact dD I O|exact dD (eL I) O⟩ (bV A) (cZ A)
 refine bG 1 A (aV A (dW ?_))
 refine bZ A A A A A A (fun ag=>?_) (fun ag=>?_)
 refine bG 1 A (aR A (cN 1 A (aN A (fY 1 A A A) (aN A (bJ A A A (bA 0 A A)) (aN A (cV 1 A A A A (aB 2 A)) (aN A (lP A A A (aB 2 A)) (aN A (eY A A A) (aN A (cV 1 A A A A (aB 2 A)) ?_))))))))
 refine dS (i:=2) (n':=(Z.2.2.1.set (((B.getD i bk0).it).toNat) ((Z.2.2.1.getD (((B.getD i bk0).it).toNat) 0)+1)).length) (xs':=((Z.2.2.1.set (((B.getD i bk0).it).toNat) ((Z.2.2.1.getD (((B.getD i bk0).it).toNat) 0)+1)).map (Value.int .i64))) A A A A A A A A AA List.length_set.symm (eP _ _ _) A (cP (cG ?_))
 exact fV (Z.1,Z.2.1,(Z.2.2.1.set (((B.getD i bk0).it).toNat) ((Z.2.2.1.getD (((B.getD i bk0).it).toNat) 0)+1))) ⟨by first|assumption|(rw[length_set];assumption),by first|assumption|(rw[length_set];assumption),by first|assumption|(rw[length_set];assumption),by first|assumption|exact dD I O|exact dD (eL I) O,by first|assumption|exact dD I O|exact dD (eL I) O,by first|assumption|exact dD I O|exact dD (eL I) O⟩ (bV A) (cZ A)
 refine bG 1 A (jQ A (cG ?_))
 exact fV (Z.1,Z.2.1,Z.2.2.1) ⟨by first|assumption|(rw[length_set];assumption),by first|assumption|(rw[length_set];assumption),by first|assumption|(rw[length_set];assumption),by first|assumption|exact dD I O|exact dD (eL I) O,by first|assumption|exact dD I O|exact dD (eL I) O,by first|assumption|exact dD I O|exact dD (eL I) O⟩ (bV A) (cZ A)
 intro Q a2
 obtain⟨bc,bd,be,bf,bg,bh⟩:=a2
 have M:BlP n (B.getD i bk0):=I
 obtain⟨aa,ab,ac,ad,a1⟩:=M.rng
 refine cF 1 A (bS ?_)
 refine iG (α:=Nat) (β:=List Int×List Int) [0,1,2,4,5,6,7,8,9,10,21,40,50] A (fun k Y=>[boxE b9 #[jI ((B.getD i bk0).kd),jI ((B.getD i bk0).it),(B.getD i bk0).bv] 136,rI9 3 (.slice (some ⟨g6,0,none⟩) ((replicate n.ls.length (0:Int)).length) ((replicate n.ls.length (0:Int)).length)) Y.2,rI9 3 (.slice (some ⟨g5,0,none⟩) ((replicate n.ss.length (0:Int)).length) ((replicate n.ss.length (0:Int)).length)) Y.1,rI9 3 (.slice (some ⟨X,0,none⟩) ((replicate n.os.length (0:Int)).length) ((replicate n.os.length (0:Int)).length)) Q.2.1,rI9 3 (.slice (some ⟨g3,0,none⟩) ((replicate n.ins.toNat (0:Int)).length) ((replicate n.ins.toNat (0:Int)).length)) Q.1,boxE U #[jI n.ins,n.sv,n.lv,n.ov] 108]) (fun k Y=>[(11,jI (k:Int))]) (fun k Y=>k≤(B.getD i bk0).es.length∧Y.1.length=n.ss.length∧Y.2.length=n.ls.length∧CntB Y.1 (10*i+2+k)∧CntB Y.2 (10*i+2+k)) (fun k Y=>(B.getD i bk0).es.length-k) 0 (Q.2.2,Z.2.2.2) ⟨Nat.zero_le _,by first|assumption|(rw[length_set];assumption),by first|assumption|(rw[length_set];assumption),by first|assumption|exact dD I O|exact dD (eL I) O,by first|assumption|exact dD I O|exact dD (eL I) O⟩ (bV A) (cZ A) ?_
 intro k Y a3
 obtain⟨hk,bi,bj,ah,ai⟩:=a3
 refine aG (aG (cN 1 A (aN A (fY 2 A A A) (aN A (bJ A A A (bA 0 A A)) (aN A (eV A A A (aE (D.at (k:=i) O))) ?_)))))
 refine aW A A A A A A (fun aj=>?_) (fun aj=>?_)
 refine dL (aR A (eC (jR (kE ?_))))
 have ak:=a1 k O
 obtain⟨⟨ga,gb⟩,⟨gc,gd⟩,ge⟩:=ak
 have bk:=ah ((B.getD i bk0).es.getD k le0).f.toNat
 have bl:=ai ((B.getD i bk0).es.getD k le0).u.toNat
 refine aN A (fY 2 A A A) (aN A (bJ A A A (bA 0 A A)) (aS 1 A (aN A (cV 2 A A A A (aE (D.at (k:=i) O))) (aN A (bR (k0:=0) A A A (aE (D.at (k:=i) O)) O) ?_))))
 refine aN A (aL (u:=jI ((((B.getD i bk0).es).getD k le0).u)) A A A (aE (D.at (k:=i) O)) ((dC leC 2 (fun _=>A) ((B.getD i bk0).es) le0 (show k<_ by omega) V).trans A)) (eK A A A A A A (fun al=>?_) (fun al=>?_))
 refine dL (aR A (cN 1 A (aN A (fY 2 A A A) (aN A (bJ A A A (bA 0 A A)) (aS 1 A (aN A (cV 2 A A A A (aE (D.at (k:=i) O))) (aN A (bR (k0:=0) A A A (aE (D.at (k:=i) O)) O) ?_)))))))
 refine aN A (aL (u:=jI ((((B.getD i bk0).es).getD k le0).u)) A A A (aE (D.at (k:=i) O)) ((dC leC 2 (fun _=>A) ((B.getD i bk0).es) le0 (show k<_ by omega) V).trans A)) (aN A (cV 1 A A A A (aB 1 A)) (aN A (lP A A A (aB 1 A)) (aN A (eY A A A) (aN A (cV 1 A A A A (aB 1 A)) ?_))))
 refine dS (i:=1) (n':=(Y.2.set (((((B.getD i bk0).es).getD k le0).u).toNat) ((Y.2.getD (((((B.getD i bk0).es).getD k le0).u).toNat) 0)+1)).length) (xs':=((Y.2.set (((((B.getD i bk0).es).getD k le0).u).toNat) ((Y.2.getD (((((B.getD i bk0).es).getD k le0).u).toNat) 0)+1)).map (Value.int .i64))) A A A A A A A A AA List.length_set.symm (eP _ _ _) A (dL (dW (aN A (fY 2 A A A) (aN A (bJ A A A (bA 0 A A)) (aS 1 A (aN A (cV 2 A A A A (aE (D.at (k:=i) O))) (aN A (bR (k0:=1) A A A (aE (D.at (k:=i) O)) O) ?_)))))))
 refine aN A (aL (u:=jI ((((B.getD i bk0).es).getD k le0).f)) A A A (aE (D.at (k:=i) O)) ((dC leC 2 (fun _=>A) ((B.getD i bk0).es) le0 (show k<_ by omega) V).trans A)) (eK A A A A A A (fun am=>?_) (fun am=>?_))
 refine dL (aR A (cN 1 A (aN A (fY 2 A A A) (aN A (bJ A A A (bA 0 A A)) (aS 1 A (aN A (cV 2 A A A A (aE (D.at (k:=i) O))) (aN A (bR (k0:=1) A A A (aE (D.at (k:=i) O)) O) ?_)))))))
 refine aN A (aL (u:=jI ((((B.getD i bk0).es).getD k le0).f)) A A A (aE (D.at (k:=i) O)) ((dC leC 2 (fun _=>A) ((B.getD i bk0).es) le0 (show k<_ by omega) V).trans A)) (aN A (cV 1 A A A A (aB 2 A)) (aN A (lP A A A (aB 2 A)) (aN A (eY A A A) (aN A (cV 1 A A A A (aB 2 A)) ?_))))
 refine dS (i:=2) (n':=(Y.1.set (((((B.getD i bk0).es).getD k le0).f).toNat) ((Y.1.getD (((((B.getD i bk0).es).getD k le0).f).toNat) 0)+1)).length) (xs':=((Y.1.set (((((B.getD i bk0).es).getD k le0).f).toNat) ((Y.1.getD (((((B.getD i bk0).es).getD k le0).f).toNat) 0)+1)).map (Value.int .i64))) A A A A A A A A AA List.length_set.symm (eP _ _ _) A (cP (eB (cN 1 A (aN A (eY A A A) (eS 1 A ?_)))))
 exact bO (k+1) ((Y.1.set (((((B.getD i bk0).es).getD k le0).f).toNat) ((Y.1.getD (((((B.getD i bk0).es).getD k le0).f).toNat) 0)+1)),(Y.2.set (((((B.getD i bk0).es).getD k le0).u).toNat) ((Y.2.getD (((((B.getD i bk0).es).getD k le0).u).toNat) 0)+1))) ⟨O,by first|assumption|(rw[length_set];assumption),by first|assumption|(rw[length_set];assumption),by first|assumption|exact dD I O|exact dD (eL I) O,by first|assumption|exact dD I O|exact dD (eL I) O⟩ O (bV A) (cZ A)
 refine dL (jQ A (eB (cN 1 A (aN A (eY A A A) (eS 1 A ?_)))))
 exact bO (k+1) (Y.1,(Y.2.set (((((B.getD i bk0).es).getD k le0).u).toNat) ((Y.2.getD (((((B.getD i bk0).es).getD k le0).u).toNat) 0)+1))) ⟨O,by first|assumption|(rw[length_set];assumption),by first|assumption|(rw[length_set];assumption),by first|assumption|exact dD I O|exact dD (eL I) O,by first|assumption|exact dD I O|exact dD (eL I) O⟩ O (bV A) (cZ A)
 refine dL (aV A (eC (dW (aN A (fY 2 A A A) (aN A (bJ A A A (bA 0 A A)) (aS 1 A (aN A (cV 2 A A A A (aE (D.at (k:=i) O))) (aN A (bR (k0:=1) A A A (aE (D.at (k:=i) O)) O) ?_))))))))
 refine aN A (aL (u:=jI ((((B.getD i bk0).es).getD k le0).f)) A A A (aE (D.at (k:=i) O)) ((dC leC 2 (fun _=>A) ((B.getD i bk0).es) le0 (show k<_ by omega) V).trans A)) (eK A A A A A A (fun an=>?_) (fun an=>?_))
 refine dL (aR A (cN 1 A (aN A (fY 2 A A A) (aN A (bJ A A A (bA 0 A A)) (aS 1 A (aN A (cV 2 A A A A (aE (D.at (k:=i) O))) (aN A (bR (k0:=1) A A A (aE (D.at (k:=i) O)) O) ?_)))))))
 refine aN A (aL (u:=jI ((((B.getD i bk0).es).getD k le0).f)) A A A (aE (D.at (k:=i) O)) ((dC leC 2 (fun _=>A) ((B.getD i bk0).es) le0 (show k<_ by omega) V).trans A)) (aN A (cV 1 A A A A (aB 2 A)) (aN A (lP A A A (aB 2 A)) (aN A (eY A A A) (aN A (cV 1 A A A A (aB 2 A)) ?_))))
 refine dS (i:=2) (n':=(Y.1.set (((((B.getD i bk0).es).getD k le0).f).toNat) ((Y.1.getD (((((B.getD i bk0).es).getD k le0).f).toNat) 0)+1)).length) (xs':=((Y.1.set (((((B.getD i bk0).es).getD k le0).f).toNat) ((Y.1.getD (((((B.getD i bk0).es).getD k le0).f).toNat) 0)+1)).map (Value.int .i64))) A A A A A A A A AA List.length_set.symm (eP _ _ _) A (cP (eB (cN 1 A (aN A (eY A A A) (eS 1 A ?_)))))
 exact bO (k+1) ((Y.1.set (((((B.getD i bk0).es).getD k le0).f).toNat) ((Y.1.getD (((((B.getD i bk0).es).getD k le0).f).toNat) 0)+1)),Y.2) ⟨O,by first|assumption|(rw[length_set];assumption),by first|assumption|(rw[length_set];assumption),by first|assumption|exact dD I O|exact dD (eL I) O,by first|assumption|exact dD I O|exact dD (eL I) O⟩ O (bV A) (cZ A)
 refine dL (jQ A (eB (cN 1 A (aN A (eY A A A) (eS 1 A ?_)))))
 exact bO (k+1) (Y.1,Y.2) ⟨O,by first|assumption|(rw[length_set];assumption),by first|assumption|(rw[length_set];assumption),by first|assumption|exact dD I O|exact dD (eL I) O,by first|assumption|exact dD I O|exact dD (eL I) O⟩ O (bV A) (cZ A)
 refine dL (aV A ?_)
 refine bW (fM ?_)
 refine aO (eB (cN 1 A (aN A (eY A A A) (eS 1 A ?_))))
 exact bO (i+1) (Q.1,Q.2.1,Y.1,Y.2) ⟨O,fun q hq=>by by_cases e:q=i;(subst e;assumption);exact G q O,by first|assumption|(rw[length_set];assumption),by first|assumption|(rw[length_set];assumption),by first|assumption|(rw[length_set];assumption),by first|assumption|(rw[length_set];assumption),by first|assumption|exact dD I O|exact dD (eL I) O,by first|assumption|exact dD I O|exact dD (eL I) O,by first|assumption|exact dD I O|exact dD (eL I) O,by first|assumption|exact dD I O|exact dD (eL I) O⟩ O (bV A) (eA [1,0,0,0,0] A)
 have a0:=lB K
 refine bG 1 A (aR A (cF 1 A ?_))
 refine cW (cK ?_)
 refine dE (rR ?_)
 refine dE (cK ?_)
 exact eQ (rs:=[.tmp 4]) (vs:=[.bool false]) (post:=[]) A ⟨A,trivial⟩ A (eA [] A) ⟨_,A,A,fun h=>by cases h⟩
 refine dL (aV A ?_)
 refine bW (fM ?_)
 refine aO (bB (aG (cN 2 A ?_)))
 refine bT (i:=3) (z:=jI 0) (bytes:=8) A A A A z8 F A A A A (aB 2 A) (bI _) (by first|omega|(simp only[length_append];omega)) (bK Z.1 Z.2.1) (cB Z.1 Z.2.1) (fun _=>A) ?_
 intro bm
 refine aS 1 A (bT (i:=3) (z:=jI 0) (bytes:=8) A A A A z8 F A A A A (aB 1 A) (bI _) (by first|omega|(simp only[length_append];omega)) (bK (Z.1++Z.2.1) Z.2.2.1) (cB (Z.1++Z.2.1) Z.2.2.1) (fun _=>A) ?_)
 intro bn
 refine aS 1 A (bT (i:=3) (z:=jI 0) (bytes:=8) A A A A z8 F A A A A (aB 0 A) (bI _) (by first|omega|(simp only[length_append];omega)) (bK ((Z.1++Z.2.1)++Z.2.2.1) Z.2.2.2) (cB ((Z.1++Z.2.1)++Z.2.2.1) Z.2.2.2) (fun _=>A) ?_)
 intro ao
 refine bG 1 A (aG (cF 1 A (bS ?_)))
 refine lC (α:=Nat) [0,1,2,4,5,6,7,8,12,21,40] A (fun j=>[rI9 3 (.slice (some ⟨g6,0,none⟩) ((replicate n.ls.length (0:Int)).length) ((replicate n.ls.length (0:Int)).length)) Z.2.2.2,rI9 3 (.slice (some ⟨g5,0,none⟩) ((replicate n.ss.length (0:Int)).length) ((replicate n.ss.length (0:Int)).length)) Z.2.2.1,rI9 3 (.slice (some ⟨X,0,none⟩) ((replicate n.os.length (0:Int)).length) ((replicate n.os.length (0:Int)).length)) Z.2.1,rowE 3 1 ao ((((Z.1++Z.2.1)++Z.2.2.1)++Z.2.2.2).length) (mI (((Z.1++Z.2.1)++Z.2.2.1)++Z.2.2.2)),boxE U #[jI n.ins,n.sv,n.lv,n.ov] 108]) (fun j=>[(13,jI (j:Int))]) (fun j=>j≤(((Z.1++Z.2.1)++Z.2.2.1)++Z.2.2.2).length) (fun j=>(((Z.1++Z.2.1)++Z.2.2.1)++Z.2.2.2).length-j) 0 (Nat.zero_le _) (bV A) (cZ A) ?_
 intro j a4
 have hj:=a4
 have bo:(((Z.1++Z.2.1)++Z.2.2.1)++Z.2.2.2).length≤1000:=by simp only[length_append];omega
 refine aG (aG (cN 2 A (aN A (eV A A A (aB 3 A)) ?_)))
 refine aW A A A A A A (fun ap=>?_) (fun ap=>?_)
 refine dL (aR A (eC (jR (aG (cN 2 A (aN A (cV 1 A A A A (aB 3 A)) (aN A (aL (u:=jI ((((Z.1++Z.2.1)++Z.2.2.1)++Z.2.2.2).getD j 0)) A A A (aB 3 A) (cJ (show _<(((Z.1++Z.2.1)++Z.2.2.1)++Z.2.2.2).length by omega))) ?_)))))))
 refine jY A A A A A A (fun aq=>?_) (fun aq=>?_)
 refine dL (aR A (cF 1 A ?_))
 refine cW (dE ?_)
 refine rR ?_
 refine dE (cK ?_)
 exact eQ (rs:=[.tmp 4]) (vs:=[.bool false]) (post:=[]) A ⟨A,trivial⟩ A (eA [] A) ⟨_,A,A,fun h=>by cases h⟩
 refine dL (jQ A (eB (cN 1 A (aN A (eY A A A) (eS 1 A ?_)))))
 exact dR (j+1) O O (bV A) (cZ A)
 refine dL (aV A ?_)
 refine bW (fM ?_)
 refine aO (bB (cF 1 A ?_))
 exact cW (eQ (rs:=[.tmp 4]) (vs:=[.bool true]) (post:=[]) A ⟨A,trivial⟩ A (eA [] A) ⟨_,A,A,fun _=>⟨O,fun q hq=>G q O⟩⟩)
theorem Jd (n:Ln) (w:World) (hr:RdsLn w n) (a6:LnOk n) :
   Calls Tryz.prog 112 #[.agg #[.int .i64 n.ins,n.sv,n.lv,n.ov]] w (Ret w (fun u_ J=>∃(ps:List HP) (bs:List Bk) (bv:Value) (ok:Bool),u_=.tuple #[bv,.bool ok]∧J=[bigE ps]∧(∀w,(bigE ps).holds w→RdsBk w bv bs)∧bv.oneCell'=true∧BsOk bs∧bs.length≤64)):=by
 have c0:=vV hr.ou
 have c1:=hr.sq.small
 have c2:=hr.lt.small
 have bt:n.cnt=1+n.ins+n.ss.length+n.ls.length:=rfl
 have bu:n.fst=1+n.ins+n.ss.length:=rfl
 obtain⟨⟨c3,c4⟩,s2,s3,s4⟩:=a6.sz
 refine aY (N:=152) (args:=[.agg #[jI n.ins,n.sv,n.lv,n.ov]]) Tryz.func112 A A (dW ?_)
 refine cU A (cE A A) fun b1=>go ?_
 refine cH A (bU (s:=3) A Tryz.underlying109 A) fun g2=>go ?_
 refine cM A (aF A A (fun w hm=>aI (by have h9:=kF n w (hr.below hm.bel);rw[gJ a6] at h9;exact h9))) (go ?_)
 refine fP (α:=Nat) (β:=Value) (γ:=List Bk) [0,1,2,3,19] A (fun i gu bs=>[rS9 136 3 gu bs bkC,boxE b1 #[jI n.ins,n.sv,n.lv,n.ov] 108]) (fun i gu bs=>[(4,gu),(5,jI (i:Int))]) (fun i gu bs=>i≤n.ins.toNat∧bs.length≤0+i∧BsNil bs) (fun i gu bs=>n.ins.toNat-i) 0 _ [] ⟨Nat.zero_le _,Nat.zero_le _,BsNil.nil⟩ (bV A) (cZ A) fun i gu bs au=>go ?_
 obtain⟨hi,bw,ae⟩:=au
 refine aW A A A A A A (fun h4=>?_) (fun h4=>go ?_)
 refine(cP (bB (aR A (gP (bB (aG (bS (bP (aS 2 A (aN A (dG (cs:=#[jI 0,jI (i:Int),.slice none 0 0]) A A A) ?_))))))))))
 refine cH A (aH (z:=.agg #[jI 0,jI 0,.slice none 0 0]) (s:=3) (cs:=[jI 0,jI (i:Int),.slice none 0 0]) A Tryz.underlying109 A V A F A) fun g5=>?_
 refine bT (i:=1) (z:=.agg #[jI 0,jI 0,.slice none 0 0]) (bytes:=40) A A A A Tryz.underlying109 F A A A A (aB 0 A) AK AC (bK bs [(Bk.mk 0 (i:Int) (.slice none 0 0) [])]) (dP bkC bs (Bk.mk 0 (i:Int) (.slice none 0 0) []) _ A) (fun _=>A) fun v6=>go ?_
 exact aQ (i+1) v6 (bs++[(Bk.mk 0 (i:Int) (.slice none 0 0) [])]) ⟨O,by(try rw[length_append,length_singleton]);omega,by first|assumption|exact ae.app V⟩ O (bV rfl) (eA [1,0] rfl)
 refine fP (α:=Nat) (β:=Value) (γ:=List Bk) [0,1,2,3,19,24] A (fun j gv cs=>[rS9 136 3 gv cs bkC,boxE b1 #[jI n.ins,n.sv,n.lv,n.ov] 108]) (fun j gv cs=>[(4,gv),(6,jI (j:Int))]) (fun j gv cs=>j≤n.os.length∧cs.length≤20+j∧BsNil cs) (fun j gv cs=>n.os.length-j) 0 _ bs ⟨Nat.zero_le _,O,I⟩ (bV A) (cZ A) fun j gv cs aw=>go ?_
 obtain⟨hj,bx,af⟩:=aw
 refine aN A (eV A A A (aE ((hr).ou))) ?_
 refine aW A A A A A A (fun h8=>?_) (fun h8=>go ?_)
 refine(cP (bB (aR A (gP (bB (aG (bS (bP (aS 2 A (aN A (dG (cs:=#[jI 1,jI (j:Int),.slice none 0 0]) A A A) ?_))))))))))
 refine cH A (aH (z:=.agg #[jI 0,jI 0,.slice none 0 0]) (s:=3) (cs:=[jI 1,jI (j:Int),.slice none 0 0]) A Tryz.underlying109 A V A F A) fun g9=>?_
 refine bT (i:=1) (z:=.agg #[jI 0,jI 0,.slice none 0 0]) (bytes:=40) A A A A Tryz.underlying109 F A A A A (aB 0 A) AK AC (bK cs [(Bk.mk 1 (j:Int) (.slice none 0 0) [])]) (dP bkC cs (Bk.mk 1 (j:Int) (.slice none 0 0) []) _ A) (fun _=>A) fun ax=>go ?_
 exact aQ (j+1) ax (cs++[(Bk.mk 1 (j:Int) (.slice none 0 0) [])]) ⟨O,by(try rw[length_append,length_singleton]);omega,by first|assumption|exact af.app V⟩ O (bV rfl) (eA [1,0] rfl)
 refine fP (α:=Nat) (β:=Value) (γ:=List Bk) [0,1,2,3,19,24,36] A (fun k gw ds=>[rS9 136 3 gw ds bkC,boxE b1 #[jI n.ins,n.sv,n.lv,n.ov] 108]) (fun k gw ds=>[(4,gw),(7,jI (k:Int))]) (fun k gw ds=>k≤n.ss.length∧ds.length≤36+k∧BsNil ds) (fun k gw ds=>n.ss.length-k) 0 _ cs ⟨Nat.zero_le _,O,I⟩ (bV A) (cZ A) fun k gw ds ag=>go ?_
 obtain⟨hk,bz,a3⟩:=ag
 refine aN A (eV A A A (aE ((hr).sq.row))) ?_
 refine aW A A A A A A (fun ay=>go ?_) (fun ay=>go ?_)
 refine aN A (cV 3 A A A A (aE ((hr).sq.row))) ?_
 refine aN A (bR (k0:=0) A A A (aE ((hr).sq.row)) O) (aN A (aL (u:=jI ((n.ss.getD k sq0).kd)) A A A (aE ((hr).sq.row)) ((dC sqC 3 (fun _=>A) n.ss sq0 (show k<_ by omega) V).trans A)) ?_)
 refine bZ A A A A A A (fun az=>?_) (fun az=>go ?_)
 refine(cP (bB (aR A (bP (aS 2 A (aN A (dG (cs:=#[jI 2,jI (k:Int),.slice none 0 0]) A A A) ?_))))))
 refine cH A (aH (z:=.agg #[jI 0,jI 0,.slice none 0 0]) (s:=3) (cs:=[jI 2,jI (k:Int),.slice none 0 0]) A Tryz.underlying109 A V A F A) fun c5=>?_
 refine bT (i:=1) (z:=.agg #[jI 0,jI 0,.slice none 0 0]) (bytes:=40) A A A A Tryz.underlying109 F A A A A (aB 0 A) AK AC (bK ds [(Bk.mk 2 (k:Int) (.slice none 0 0) [])]) (dP bkC ds (Bk.mk 2 (k:Int) (.slice none 0 0) []) _ A) (fun _=>A) fun b0=>go ?_
 exact aQ (k+1) b0 (ds++[(Bk.mk 2 (k:Int) (.slice none 0 0) [])]) ⟨O,by(try rw[length_append,length_singleton]);omega,by first|assumption|exact a3.app V⟩ O (bV rfl) (eA [1,0] rfl)
 exact aQ (k+1) gw ds ⟨O,by(try rw[length_append,length_singleton]);omega,by first|assumption|exact a3.app V⟩ O (bV rfl) (cZ rfl)
 refine fF A A A (aF A A (fun w hm=>Cx n w (hr.below hm.bel) a6)) fun M c6 b2=>?_
 obtain⟨es,rfl,ac,c7⟩:=b2
 refine go ?_
 refine cH A (fB (z:=.bool false) (s:=1) (bytes:=1) (n:=(replicate es.length bl0).length) (cs:=((replicate es.length bl0).flatMap blC)) A Tryz.underlying61 A V A A AB AB AF (fZ blC 1 (fun _=>A) bl0 _ A es.length)) fun a2=>go ?_
 refine fK _ hF ?_
 refine mS (α:=Nat) (β:=Value×List Bk) (γ:=List Bl) (δ:=List HP) [0,1,2,3,8,9,19,24,36,48] A (fun i U D ps=>[bigE ps,rS9 4 1 (.slice (some ⟨a2,0,none⟩) ((replicate es.length bl0).length) ((replicate es.length bl0).length)) D blC,rS9 166 2 M es leC,rS9 136 3 U.1 U.2 bkC,boxE b1 #[jI n.ins,n.sv,n.lv,n.ov] 108]) (fun i U D ps=>[(4,U.1),(10,jI (i:Int))]) (fun i U D ps=>i≤es.length∧U.2.length≤64∧BsOk U.2∧D.length=es.length∧∀w,(bigE ps).holds w→EsR w U.2) (fun i U D ps=>es.length-i) 0 (_,ds) (replicate es.length bl0) [] ⟨Nat.zero_le _,by show(ds).length≤64;omega,a3.ok,length_replicate,fun w _=>a3.es w⟩ (bV A) (cZ A) fun i U D ps ah=>go ?_
 obtain⟨hi,ai,a9,b3,aa⟩:=ah
 refine aW A A A A A A (fun b4=>go ?_) (fun b4=>go ?_)
 refine aN A (cV 1 A A A A (aB 1 A)) ?_
 refine aN A (aL (u:=.bool ((D.getD i bl0).b)) A A A (aB 1 A) (dF blC (fun r=>.bool r.b) (fun _=>A) D bl0 (show i<_ by omega))) (bD (fun b5=>go ?_) (fun b5=>go ?_))
 exact dH (i+1) (U.1,U.2) D ps ⟨O,ai,a9,b3,aa⟩ O (bV A) (cZ A)
 refine bZ A A A A A A (fun b6=>go ?_) (fun b6=>go ?_)
 refine cH A (bU (s:=3) A Tryz.underlying109 A) fun aj=>go ?_
 refine bN 6 [5,4,3,2,1,0] A A V ?_
 refine dN 1 A ?_
 exact eQ (rs:=[.tmp 2,.tmp 3]) (vs:=[.slice (some ⟨aj,0,none⟩) 0 0,.bool false]) (post:=[bigE [rowE 136 3 (.slice (some ⟨aj,0,none⟩) 0 0) 0 ([])]]) A ⟨A,A,trivial⟩ A (eA [0] A) ⟨_,[],_,_,A,A,fun w hw=>⟨cI (bF hw eG),(fun b hb=>by cases hb)⟩,A,(fun b hb=>by cases hb),V⟩
 refine fP (α:=Nat) (β:=Int) (γ:=Int) [0,1,2,3,4,8,9,10,19,24,36,48,71,77,80] A (fun k e a0=>[bigE ps,rS9 4 1 (.slice (some ⟨a2,0,none⟩) ((replicate es.length bl0).length) ((replicate es.length bl0).length)) D blC,rS9 166 2 M es leC,rS9 136 3 U.1 U.2 bkC,boxE b1 #[jI n.ins,n.sv,n.lv,n.ov] 108]) (fun k e a0=>[(11,jI e),(12,jI a0),(13,jI (k:Int))]) (fun k e a0=>(i+1≤k∧k≤es.length)∧(e = -1∨(0≤e∧e<es.length))) (fun k e a0=>es.length-k) (i+1) _ _ ⟨O,.inl A⟩ (bV A) (cZ A) fun k e a0 ak=>go ?_
 obtain⟨⟨c8,c9⟩,hb⟩:=ak
 refine aW A A A A A A (fun b7=>go ?_) (fun b7=>go ?_)
 rcases eq_false_or_eq_true ((D.getD k bl0).b) with a7|a7
 refine bL 19 [[],[],[0,1],[2],[3],[4],[4],[4],[4],[4],[4],[4],[4],[4],[4],[4],[4],[4],[4,17]] [90,91,92,93,94,95,96,97,98,99,100,101,102,103,104,105,106,107,108] [.slice (some ⟨a2,0,none⟩) ((replicate es.length bl0).length) ((replicate es.length bl0).length),jI (k:Int),elP (.slice (some ⟨a2,0,none⟩) ((replicate es.length bl0).length) ((replicate es.length bl0).length)) ((k:Int).toNat*1),.bool true,.bool true,undef,undef,undef,undef,undef,undef,undef,undef,undef,undef,undef,undef,undef,.bool true] F A ?_ ?_
 exact⟨aJ,aJ,aJ,.inl ⟨A,zV (aL (u:=.bool ((D.getD k bl0).b)) A A A (aB 1 A) (dF blC (fun r=>.bool r.b) (fun _=>A) D bl0 (show k<_ by omega))) a7⟩,aJ,aJ,aJ,aJ,aJ,aJ,aJ,aJ,aJ,aJ,aJ,aJ,aJ,aJ,aJ,trivial⟩
 simp only[drop_succ_cons,drop_zero]
 refine go ?_
 exact aQ (k+1) _ _ ⟨O,by first|exact hb|exact .inr ⟨O,O⟩⟩ O (bV A) (cZ A)
 refine eI A 19 [0,1,2,3,4,5,6,7,8,9,10,11,12,13,14,15,16,17,18] (List.take 19 _) (List.drop 19 _) [[],[],[0,1],[2],[3],[4],[4],[4],[4,6,7],[4,8],[4],[4],[4,10,11],[4,12],[4,9,13],[4,5,14],[4,15],[4,15,16],[4,17]] [90,91,92,93,94,95,96,97,98,99,100,101,102,103,104,105,106,107,108] (fun i_ b8 X J=>match i_ with|0=>X=.slice (some ⟨a2,0,none⟩) ((replicate es.length bl0).length) ((replicate es.length bl0).length)∧J=[]|1=>X=jI (k:Int)∧J=[]|2=>X=elP (.slice (some ⟨a2,0,none⟩) ((replicate es.length bl0).length) ((replicate es.length bl0).length)) ((k:Int).toNat*1)∧J=[]|3=>X=.bool false∧J=[]|4=>X=.bool false∧J=[]|5=>X=.agg #[jI n.ins,n.sv,n.lv,n.ov]∧J=[]|6=>X=M∧J=[]|7=>X=jI (i:Int)∧J=[]|8=>X=elP M ((i:Int).toNat*2)∧J=[]|9=>X=.agg #[jI ((es.getD i le0).u),jI ((es.getD i le0).f)]∧J=[]|10=>X=M∧J=[]|11=>X=jI (k:Int)∧J=[]|12=>X=elP M ((k:Int).toNat*2)∧J=[]|13=>X=.agg #[jI ((es.getD k le0).u),jI ((es.getD k le0).f)]∧J=[]|14=>IsRow 166 2 2 (mI [(es.getD i le0).u,(es.getD i le0).f,(es.getD k le0).u,(es.getD k le0).f]) X J|15=>(fun v' post=>post=[rI9 3 v' (pinsK n [es.getD i le0,es.getD k le0])]) X J|16=>X=jI ((pinsK n [es.getD i le0,es.getD k le0]).length:Int)∧J=[]|17=>X=.bool (decide (5<((pinsK n [es.getD i le0,es.getD k le0]).length:Int)))∧J=[]|18=>X=.bool (decide (5<((pinsK n [es.getD i le0,es.getD k le0]).length:Int)))∧J=[]|_=>True) (take_append_drop 19 _).symm F F A A ?_ ?_
 refine⟨?_,?_,?_,?_,?_,?_,?_,?_,?_,?_,?_,?_,?_,?_,?_,?_,?_,?_,?_,trivial⟩
 intro vf G B
 exact fG A (aD [9] A) (aK (aU A))
 intro vf G B
 exact fG A (aD [13] A) (aK (aU A))
 intro vf G B
 have e0:=B 0 V
 have e1:=B 1 V
 exact eH A (aX 90 e0.1 (aX 91 e1.1 (aA _))) (aK (cV 1 A A A A (aB 1 A)))
 intro vf G B
 have e2:=B 2 V
 exact eH A (aX 92 e2.1 (aA _)) (dM (aK (aL (u:=.bool ((D.getD k bl0).b)) A A A (aB 1 A) (dF blC (fun r=>.bool r.b) (fun _=>A) D bl0 (show k<_ by omega)))) (fun _ _ h=>⟨h.1.trans (congrArg Value.bool a7),h.2⟩))
 intro vf G B
 have e3:=B 3 V
 exact fG A (aX 93 e3.1 (aA _)) (aK (aU A))
 intro vf G B
 have E:=B 4 V
 refine Or.inl ⟨cC (congrArg some E.1) A,?_⟩
 exact bC (aD [1] A) z9 (aK (aP (cs:=[jI n.ins,n.sv,n.lv,n.ov]) A A A A A (aM 4 A 0 A)))
 intro vf G B
 have E:=B 4 V
 refine Or.inl ⟨cC (congrArg some E.1) A,?_⟩
 exact aZ (aD [8] A) (aK (aU A))
 intro vf G B
 have E:=B 4 V
 refine Or.inl ⟨cC (congrArg some E.1) A,?_⟩
 exact aZ (aD [10] A) (aK (aU A))
 intro vf G B
 have E:=B 4 V
 have e6:=B 6 V
 have e7:=B 7 V
 refine Or.inl ⟨cC (congrArg some E.1) A,?_⟩
 exact bC (aX 96 e6.1 (aX 97 e7.1 (aA _))) z9 (aK (cV 2 A A A A (aB 2 A)))
 intro vf G B
 have E:=B 4 V
 have e8:=B 8 V
 refine Or.inl ⟨cC (congrArg some E.1) A,?_⟩
 exact bC (aX 98 e8.1 (aA _)) z9 (aK (cO (us:=[jI ((es.getD i le0).u),jI ((es.getD i le0).f)]) A A A A (aB 2 A) O A (dQ leC 2 (fun _=>A) es le0 (show i<_ by omega) A)))
 intro vf G B
 have E:=B 4 V
 refine Or.inl ⟨cC (congrArg some E.1) A,?_⟩
 exact aZ (aD [8] A) (aK (aU A))
 intro vf G B
 have E:=B 4 V
 refine Or.inl ⟨cC (congrArg some E.1) A,?_⟩
 exact aZ (aD [13] A) (aK (aU A))
 intro vf G B
 have E:=B 4 V
 have b9:=B 10 V
 have ba:=B 11 V
 refine Or.inl ⟨cC (congrArg some E.1) A,?_⟩
 exact bC (aX 100 b9.1 (aX 101 ba.1 (aA _))) z9 (aK (cV 2 A A A A (aB 2 A)))
 intro vf G B
 have E:=B 4 V
 have bb:=B 12 V
 refine Or.inl ⟨cC (congrArg some E.1) A,?_⟩
 exact bC (aX 102 bb.1 (aA _)) z9 (aK (cO (us:=[jI ((es.getD k le0).u),jI ((es.getD k le0).f)]) A A A A (aB 2 A) O A (dQ leC 2 (fun _=>A) es le0 (show k<_ by omega) A)))
 intro vf G B
 have E:=B 4 V
 have e9:=B 9 V
 have bc:=B 13 V
 refine Or.inl ⟨cC (congrArg some E.1) A,?_⟩
 exact bC (aX 99 e9.1 (aX 103 bc.1 (aA _))) z9 (aH (z:=.agg #[jI 0,jI 0]) (s:=2) (cs:=(mI [(es.getD i le0).u,(es.getD i le0).f,(es.getD k le0).u,(es.getD k le0).f])) A Tryz.underlying134 A V A F A)
 intro vf G B
 have E:=B 4 V
 have e5:=B 5 V
 obtain⟨bd,a4,a8⟩:=B 14 V
 refine Or.inl ⟨cC (congrArg some E.1) A,?_⟩
 exact bQ (aX 95 e5.1 (aX 104 a4 (aA _))) (by simp only[a8,a4,E.2,e5.2,fS]<;>rfl) (aF A A (fun w hm=>nV n [es.getD i le0,es.getD k le0] _ w (hr.below hm.bel) a6 (aB 0 A w hm) (by simp only[length_cons,List.length_nil];omega) (ac.two O O)))
 intro vf G B
 have E:=B 4 V
 obtain⟨al,K⟩:=dU (vf 15)
 obtain⟨am,Y⟩:=dU (G 15)
 have a1:=B 15 V
 rw[K,Y] at a1
 subst a1
 refine Or.inl ⟨cC (congrArg some E.1) A,?_⟩
 exact bQ (aX 105 K (aA _)) (by simp only[Y,K,E.2,fS]<;>rfl) (aK (eV A A A (aB 0 A)))
 intro vf G B
 have E:=B 4 V
 obtain⟨al,K⟩:=dU (vf 15)
 obtain⟨am,Y⟩:=dU (G 15)
 have a1:=B 15 V
 rw[K,Y] at a1
 subst a1
 have an:=B 16 V
 refine Or.inl ⟨cC (congrArg some E.1) A,?_⟩
 exact bQ (aX 106 an.1 (aA _)) (by simp only[Y,K,E.2,an.2,fS]<;>rfl) (aK (jA A A A A))
 intro vf G B
 have E:=B 4 V
 have be:=B 17 V
 exact fG A (aX 94 E.1 (aX 107 be.1 (aA _))) (aK (aU A))
 intro vf G B
 obtain⟨bd,a4,a8⟩:=B 14 V
 obtain⟨al,K⟩:=dU (vf 15)
 obtain⟨am,Y⟩:=dU (G 15)
 have a1:=B 15 V
 rw[K,Y] at a1
 subst a1
 have bf:=B 18 V
 have q0:=B 0 V
 have q1:=B 1 V
 have q2:=B 2 V
 have q3:=B 3 V
 have q4:=B 4 V
 have q5:=B 5 V
 have q6:=B 6 V
 have q7:=B 7 V
 have q8:=B 8 V
 have q9:=B 9 V
 have bg:=B 10 V
 have bh:=B 11 V
 have bi:=B 12 V
 have bj:=B 13 V
 have bk:=B 16 V
 have bl:=B 17 V
 have bm:=B 18 V
 refine cL (bE [87,80,77,71,48,36,24,19,13,12,11,10,9,8,4,3,2,1,0] _ (aX 108 bf.1 (aA _)) A) (by simp only[a8,a4,Y,K,q0.2,q1.2,q2.2,q3.2,q4.2,q5.2,q6.2,q7.2,q8.2,q9.2,bg.2,bh.2,bi.2,bj.2,bk.2,bl.2,bm.2,fS]<;>rfl) ?_
 simp only[drop_succ_cons,drop_zero]
 refine go ?_
 refine fO A (fun ad=>go ?_) (fun ad=>go ?_)
 have ao:5<((pinsK n [es.getD i le0,es.getD k le0]).length:Int):=of_decide_eq_true ad
 exact aQ (k+1) _ _ ⟨O,by first|exact hb|exact .inr ⟨O,O⟩⟩ O (bV A) (eA [2,0,0,0,0] A)
 have ao:¬(5<((pinsK n [es.getD i le0,es.getD k le0]).length:Int)):=of_decide_eq_false ad
 refine bL 10 [[],[],[],[1,2],[3],[],[],[5,6],[7],[0,4,8]] [109,110,111,112,113,114,115,116,117,118] [.agg #[jI n.ins,n.sv,n.lv,n.ov],M,jI (i:Int),elP M ((i:Int).toNat*2),.agg #[jI ((es.getD i le0).u),jI ((es.getD i le0).f)],M,jI (k:Int),elP M ((k:Int).toNat*2),.agg #[jI ((es.getD k le0).u),jI ((es.getD k le0).f)],jI (comK n (es.getD i le0) (es.getD k le0))] F A ?_ ?_
 exact⟨aJ,aJ,aJ,aJ,fL A (cO (us:=[jI ((es.getD i le0).u),jI ((es.getD i le0).f)]) A A A A (aB 4 A) O A (dQ leC 2 (fun _=>A) es le0 (show i<_ by omega) A)) A,aJ,aJ,aJ,fL A (cO (us:=[jI ((es.getD k le0).u),jI ((es.getD k le0).f)]) A A A A (aB 4 A) O A (dQ leC 2 (fun _=>A) es le0 (show k<_ by omega) A)) A,.inl ⟨A,aF A A (fun w hm=>aI (vY n (es.getD i le0) (es.getD k le0) w (hr.below hm.bel) a6 (ac _ O) (ac _ O)))⟩,trivial⟩
 simp only[drop_succ_cons,drop_zero]
 refine go ?_
 refine fJ A A A A A A (fun bn=>go ?_) (fun bn=>go ?_)
 exact aQ (k+1) _ _ ⟨O,by first|exact hb|exact .inr ⟨O,O⟩⟩ O (bV A) (eA [2,0,0,0,0] A)
 exact aQ (k+1) _ _ ⟨O,by first|exact hb|exact .inr ⟨O,O⟩⟩ O (bV A) (eA [2,0,0,0,0] A)
 refine aN A (cV 2 A A A A (aB 2 A)) ?_
 refine aN A (cO (us:=[jI ((es.getD i le0).u),jI ((es.getD i le0).f)]) A A A A (aB 2 A) O A (dQ leC 2 (fun _=>A) es le0 (show i<_ by omega) A)) (cH A (aH (z:=.agg #[jI 0,jI 0]) (s:=2) (cs:=(mI [(es.getD i le0).u,(es.getD i le0).f])) A Tryz.underlying134 A V A F A) fun Z=>?_)
 refine aN A (dG (cs:=#[jI 3,jI 0,.slice (some ⟨Z,0,none⟩) 1 1]) A A A) (cU A (bY (z:=.agg #[jI 0,jI 0,.slice none 0 0]) A A) fun ap=>?_)
 refine cA (cs':=#[jI 3,jI 0,.slice (some ⟨Z,0,none⟩) 1 1]) (i:=0) (off:=0) (us:=[jI 3,jI 0,.slice (some ⟨Z,0,none⟩) 1 1]) A A A A A A A (aC A (aC A (aC A bH))) A A A (go ?_)
 refine dO (l':=[boxE ap #[jI 3,jI 0,.slice (some ⟨Z,0,none⟩) 1 1] 136,rowE 166 2 (.slice (some ⟨Z,0,none⟩) 1 1) (([es.getD i le0]).length) (([es.getD i le0]).flatMap leC),bigE ps,rS9 4 1 (.slice (some ⟨a2,0,none⟩) ((replicate es.length bl0).length) ((replicate es.length bl0).length)) D blC,rS9 166 2 M es leC,rS9 136 3 U.1 U.2 bkC,boxE b1 #[jI n.ins,n.sv,n.lv,n.ov] 108]) A (go ?_)
 refine eK A A A A A A (fun bo=>go ?_) (fun bo=>go ?_)
 refine eI A 7 [0,1,2,3,4,5,6] (List.take 7 _) (List.drop 7 _) [[],[0],[],[],[2,3],[4],[5]] [132,133,134,135,136,137,138] (fun i_ b8 X J=>match i_ with|0=>X=.pointer (some ⟨ap,0+2,none⟩)∧J=[]|1=>X=.slice (some ⟨Z,0,none⟩) 1 1∧J=[]|2=>X=M∧J=[]|3=>X=jI e∧J=[]|4=>X=elP M (e.toNat*2)∧J=[]|5=>X=.agg #[jI ((es.getD (e.toNat) le0).u),jI ((es.getD (e.toNat) le0).f)]∧J=[]|6=>IsRow 166 2 1 (mI [(es.getD (e.toNat) le0).u,(es.getD (e.toNat) le0).f]) X J|_=>True) (take_append_drop 7 _).symm F F A A ?_ ?_
 refine⟨?_,?_,?_,?_,?_,?_,?_,trivial⟩
 intro vf G B
 exact fG A (aD [15] A) (aK (fY 2 A A A))
 intro vf G B
 have e0:=B 0 V
 exact eH A (aX 132 e0.1 (aA _)) (aK (bJ A A A (bA 0 A A)))
 intro vf G B
 exact fG A (aD [8] A) (aK (aU A))
 intro vf G B
 exact fG A (aD [11] A) (aK (aU A))
 intro vf G B
 have e2:=B 2 V
 have e3:=B 3 V
 exact eH A (aX 134 e2.1 (aX 135 e3.1 (aA _))) (aK (cV 2 A A A A (aB 4 A)))
 intro vf G B
 have E:=B 4 V
 exact eH A (aX 136 E.1 (aA _)) (aK (cO (us:=[jI ((es.getD (e.toNat) le0).u),jI ((es.getD (e.toNat) le0).f)]) A A A A (aB 4 A) O A (dQ leC 2 (fun _=>A) es le0 (show e.toNat<_ by omega) A)))
 intro vf G B
 have e5:=B 5 V
 exact eH A (aX 137 e5.1 (aA _)) (aH (z:=.agg #[jI 0,jI 0]) (s:=2) (cs:=(mI [(es.getD (e.toNat) le0).u,(es.getD (e.toNat) le0).f])) A Tryz.underlying134 A V A F A)
 intro vf G B
 have e1:=B 1 V
 obtain⟨ca,aq,bp⟩:=B 6 V
 have q0:=B 0 V
 have q1:=B 1 V
 have q2:=B 2 V
 have q3:=B 3 V
 have q4:=B 4 V
 have q5:=B 5 V
 refine cL (bE [131,87,80,77,71,48,36,24,19,15,13,12,11,10,9,8,4,3,2,1,0] _ (aX 133 e1.1 (aX 138 aq (aA _))) A) (by simp only[bp,aq,q0.2,q1.2,q2.2,q3.2,q4.2,q5.2,fS]<;>rfl) ?_
 simp only[drop_succ_cons,drop_zero]
 refine bT (i:=2) (z:=.agg #[jI 0,jI 0]) (bytes:=16) A A A A Tryz.underlying134 F A A A A (aB 0 A) (bI _) AC (bK ([es.getD i le0]) [(Le.mk ((es.getD (e.toNat) le0).u) ((es.getD (e.toNat) le0).f))]) (dP leC ([es.getD i le0]) (Le.mk ((es.getD (e.toNat) le0).u) ((es.getD (e.toNat) le0).f)) _ A) (fun _=>A) fun a5=>go ?_
 refine eE (i:=2) A (fun ab=>?_)
 refine gB (i:=1) (cs':=#[jI 3,jI 0,a5]) A A A A A A ab A A A A (go ?_)
 refine aN A (cV 1 A A A A (aB 4 A)) ?_
 refine dS (i:=4) (n':=(D.set (e.toNat) { D.getD (e.toNat) bl0 with b:=true }).length) A A A A A A A A AA List.length_set.symm (eF blC (fun r=>.bool r.b) (fun _=>A) _ ({ D.getD (e.toNat) bl0 with b:=true }) A) A (go ?_)
 refine cH A (aH (z:=.agg #[jI 0,jI 0,.slice none 0 0]) (s:=3) (cs:=[jI 3,jI 0,a5]) A Tryz.underlying109 A V A F A) fun cb=>?_
 refine bT (i:=7) (z:=.agg #[jI 0,jI 0,.slice none 0 0]) (bytes:=40) A A A A Tryz.underlying109 F A A A A (aB 0 A) (aC A (aC A (aC ab bH))) AC (bK U.2 [(Bk.mk 3 0 a5 (([es.getD i le0])++[(Le.mk ((es.getD (e.toNat) le0).u) ((es.getD (e.toNat) le0).f))]))]) (dP bkC U.2 (Bk.mk 3 0 a5 (([es.getD i le0])++[(Le.mk ((es.getD (e.toNat) le0).u) ((es.getD (e.toNat) le0).f))])) _ A) (fun _=>A) fun bq=>go ?_
 refine bN 9 [8,7,6,5,3,4] A A V ?_
 refine dN 2 A ?_
 exact dH (i+1) (bq,U.2++[(Bk.mk 3 0 a5 (([es.getD i le0])++[(Le.mk ((es.getD (e.toNat) le0).u) ((es.getD (e.toNat) le0).f))]))]) (D.set (e.toNat) { D.getD (e.toNat) bl0 with b:=true }) [bigE ps,rowE 166 2 a5 ((([es.getD i le0])++[(Le.mk ((es.getD (e.toNat) le0).u) ((es.getD (e.toNat) le0).f))]).length) ((([es.getD i le0])++[(Le.mk ((es.getD (e.toNat) le0).u) ((es.getD (e.toNat) le0).f))]).flatMap leC)] ⟨O,by show List.length (_++[_])≤64;rw[length_append,length_singleton];omega,a9.app ⟨by dsimp only;decide,AI⟩,by first|assumption|(rw[length_set];assumption),fun w hw=>(aa w (bF hw eG)).app (cI (bF hw (fW eG)))⟩ O (bV rfl) (cZ rfl)
 refine cH A (aH (z:=.agg #[jI 0,jI 0,.slice none 0 0]) (s:=3) (cs:=[jI 3,jI 0,.slice (some ⟨Z,0,none⟩) 1 1]) A Tryz.underlying109 A V A F A) fun cc=>?_
 refine bT (i:=6) (z:=.agg #[jI 0,jI 0,.slice none 0 0]) (bytes:=40) A A A A Tryz.underlying109 F A A A A (aB 0 A) AK AC (bK U.2 [(Bk.mk 3 0 (.slice (some ⟨Z,0,none⟩) 1 1) ([es.getD i le0]))]) (dP bkC U.2 (Bk.mk 3 0 (.slice (some ⟨Z,0,none⟩) 1 1) ([es.getD i le0])) _ A) (fun _=>A) fun br=>go ?_
 refine bN 8 [7,6,5,4,2,3] A A V ?_
 refine dN 2 A ?_
 exact dH (i+1) (br,U.2++[(Bk.mk 3 0 (.slice (some ⟨Z,0,none⟩) 1 1) ([es.getD i le0]))]) D [bigE ps,rowE 166 2 (.slice (some ⟨Z,0,none⟩) 1 1) (([es.getD i le0]).length) (([es.getD i le0]).flatMap leC)] ⟨O,by show List.length (_++[_])≤64;rw[length_append,length_singleton];omega,a9.app ⟨by dsimp only;decide,AI⟩,by first|assumption|(rw[length_set];assumption),fun w hw=>(aa w (bF hw eG)).app (cI (bF hw (fW eG)))⟩ O (bV rfl) (cZ rfl)
 refine iA A A A A A A (fun ar=>go ?_) (fun ar=>absurd ar O)
 refine gC (fun w hm=>(aB 3 A w hm).one) (fun ho=>?_)
 refine bN 5 [4,2,1,0,3] A A V ?_
 refine dN 2 A ?_
 exact eQ (rs:=[.tmp 2,.tmp 3]) (vs:=[U.1,.bool true]) (post:=[bigE [rS9 136 3 U.1 U.2 bkC,bigE ps]]) A ⟨A,A,trivial⟩ A (eA [0] A) ⟨_,U.2,_,_,A,A,fun w hw=>⟨cI (bF hw eG),aa w (bF hw (fW eG))⟩,ho,a9,ai⟩
theorem jG {w X:World}{d:Dev}{o e B:Obj}(h:DevS (w.alloc o) w.heap.size d X):Below w.heap.size w ((X.alloc e).alloc B).drew.drew:=((eO (eO (eR h) e) B).drew).drew
theorem k4' {d:Dev}{t:Int}(h:(((t % d.W==0)=true∨(t / d.W==0)=true)∨(t % d.W==d.W-1)=true)∨(t / d.W==d.H-1)=true):0=kindI d t:=by
  rcases h with((h|h)|h)|h
  · exact Ia (.inl (.inl (.inl h)))
  · exact Ia (.inl (.inr h))
  · exact Ia (.inl (.inl (.inr h)))
  · exact Ia (.inr h)
theorem k5' {d:Dev}{t:Int}(h:(((t % d.W==0)=false∧(t / d.W==0)=false)∧(t % d.W==d.W-1)=false)∧(t / d.W==d.H-1)=false) (e:(t % d.W==d.R)=true):2=kindI d t:=
  k5 ⟨⟨⟨h.1.1.1,h.1.2⟩,h.1.1.2⟩,h.2⟩ e
theorem k6' {d:Dev}{t:Int}(h:(((t % d.W==0)=false∧(t / d.W==0)=false)∧(t % d.W==d.W-1)=false)∧(t / d.W==d.H-1)=false) (e:(t % d.W==d.R)=false):1=kindI d t:=
  k6 ⟨⟨⟨h.1.1.1,h.1.2⟩,h.1.1.2⟩,h.2⟩ e
theorem cQ (d:Dev) (t:Int) (w:World) :
    Calls Tryz.prog 60 #[.agg #[.int .i64 d.W,.int .i64 d.H,.int .i64 d.T,.int .i64 d.R],.int .i64 t] w fun e w'=>e=.returned (.int .i64 (tileKindI d t))∧Below w.heap.size w w':=by
  rcases eq_false_or_eq_true (devB d) with hv|hv
  rotate_left
  · have hf := Lib.hid (show tileKindI d t = -1 from if_neg (by simp [tOk, hv]))
    have hS0:=cY w d
    have HS0:=Lib.hid hS0
    go_enter Tryz.func60,Tryz.ntmps60
    go_wp2_with fail
    refine(eT d _).mono ?_
    rintro e w1 ⟨rfl,hb1⟩
    have hS1:=bX HS0.out hb1
    have HS1:=Lib.hid hS1
    clear hS0
    obtain⟨c0,c1,c2,c3, -⟩:=hS1
    clear hb1
    have hz1:w.heap.size<w1.heap.size:=World.block_lt_of_cell? _ _ c0
    go_wp2
    go_ret
    exact⟨fE hf.out.symm,eR HS1.out⟩
  obtain⟨m1,m2⟩:=hU hv
  obtain⟨⟨a1,a2⟩,⟨b1,b2⟩, -, -⟩:=(dI d).1 hv
  by_cases h0:t<0
  · have hf := Lib.hid (show tileKindI d t = -1 from if_neg (by rw [fC]; omega))
    have hS0:=cY w d
    have HS0:=Lib.hid hS0
    go_enter Tryz.func60,Tryz.ntmps60
    go_wp2_with fail
    refine(eT d _).mono ?_
    rintro e w1 ⟨rfl,hb1⟩
    have hS1:=bX HS0.out hb1
    have HS1:=Lib.hid hS1
    clear hS0
    obtain⟨c0,c1,c2,c3, -⟩:=hS1
    clear hb1
    have hz1:w.heap.size<w1.heap.size:=World.block_lt_of_cell? _ _ c0
    go_wp2
    go_ret
    exact⟨fE hf.out.symm,eR HS1.out⟩
  by_cases h1:d.W*d.H≤t
  · have hf := Lib.hid (show tileKindI d t = -1 from if_neg (by rw [fC]; omega))
    have hS0:=cY w d
    have HS0:=Lib.hid hS0
    go_enter Tryz.func60,Tryz.ntmps60
    go_wp2_with fail
    refine(eT d _).mono ?_
    rintro e w1 ⟨rfl,hb1⟩
    have hS1:=bX HS0.out hb1
    have HS1:=Lib.hid hS1
    clear hS0
    obtain⟨c0,c1,c2,c3, -⟩:=hS1
    clear hb1
    have hz1:w.heap.size<w1.heap.size:=World.block_lt_of_cell? _ _ c0
    go_wp2
    go_ret
    exact⟨fE hf.out.symm,eR HS1.out⟩
  · have hf := Lib.hid (show tileKindI d t = kindI d t from if_pos ((fC d t).2 ⟨hv, by omega, by omega⟩))
    have o1:=@jH d t
    have o2:=@k2_o d t
    have o3:=@k3_o d t
    have z:t≤35:=by omega
    have hS0:=cY w d
    have HS0:=Lib.hid hS0
    go_enter Tryz.func60,Tryz.ntmps60
    go_wp2_with fail
    refine(eT d _).mono ?_
    rintro e w1 ⟨rfl,hb1⟩
    have hS1:=bX HS0.out hb1
    have HS1:=Lib.hid hS1
    clear hS0
    obtain⟨c0,c1,c2,c3, -⟩:=hS1
    clear hb1
    have hz1:w.heap.size<w1.heap.size:=World.block_lt_of_cell? _ _ c0
    clear o1 o2 o3
    go_wp2
    all_goals go_ret
    all_goals refine⟨fE ?_,eR HS1.out⟩
    all_goals rw[hf.out]
    all_goals first|exact jH (by assumption)|exact k2_o (by assumption)|exact k3_o (by assumption)|exact k4' (by assumption)|exact k5' (by assumption) (by assumption)|exact k6' (by assumption) (by assumption)
theorem eW (d:Dev) (h:devB d=true) (w:World):Calls Tryz.prog 29 #[.agg #[.int .i64 d.W,.int .i64 d.H,.int .i64 d.T,.int .i64 d.R]] w fun e B=>e=.returned (.int .i64 (perI d))∧Below w.heap.size w B:=by
  obtain⟨-, -,⟨D,E⟩, -⟩:=(dI d).1 h
  go_enter Tryz.func29,Tryz.ntmps29
  go_wp2
  go_ret
  exact⟨rfl,eO (Below.refl _ _) _⟩
theorem tX (k:Int) (h:k=0∨k=1∨k=2) (w:World):Calls Tryz.prog 59 #[.int .i64 k] w fun e B=>e=.returned (.int .i64 (inPinsI k))∧w=B:=by
  rcases h with rfl|rfl|rfl
  all_goals
    go_enter Tryz.func59,Tryz.ntmps59
    go_wp2
    go_ret
    exact⟨rfl,rfl⟩
theorem lA (k:Int) (h:k=0∨k=1∨k=2) (w:World):Calls Tryz.prog 61 #[.int .i64 k] w fun e B=>e=.returned (.int .i64 (outPinsI k))∧w=B:=by
  rcases h with rfl|rfl|rfl
  all_goals
    go_enter Tryz.func61,Tryz.ntmps61
    go_wp2
    go_ret
    exact⟨rfl,rfl⟩
theorem eX (d:Dev)  (D:devB d=true) (w:World) :
    Calls Tryz.prog 10 #[.agg #[.int .i64 d.W,.int .i64 d.H,.int .i64 d.T,.int .i64 d.R]] w fun e E=>e=.returned (.int .i64 (allI d))∧Below w.heap.size w E:=by
  obtain⟨h1,h2⟩:=fR D
  obtain⟨m1,m2⟩:=hU D
  obtain⟨M,U⟩:=eM D
  unfold allI at M U
  have e1:IntKind.i64.wrap (d.W*d.H)=d.W*d.H:=IntWalk.i64_in _ O
  have e2:IntKind.i64.wrap (d.W*d.H*perI d)=d.W*d.H*perI d:=IntWalk.i64_in _ O
  have h:=cY w d
  have G:=Lib.hid h
  go_enter Tryz.func10,Tryz.ntmps10
  go_wp2_with fail
  refine(eT d _).mono ?_
  rintro e w1 ⟨rfl,hb1⟩
  have B:=bX G.out hb1
  have J:=Lib.hid B
  clear h
  obtain⟨K,X,Y,Z, -⟩:=B
  clear hb1
  have a0:w.heap.size<w1.heap.size:=World.block_lt_of_cell? _ _ K
  have hS:=J.out
  clear K X Y Z
  go_wp2
  go_region_held3 (fun E=>DevS (w.alloc (.cells #[.int .i64 d.W,.int .i64 d.H,.int .i64 d.T,.int .i64 d.R] 25)) w.heap.size d E) (first|assumption|exact kJ I|exact devS_alloc I _|exact bX I I) (first|(go_at_call 29;refine(eW d D _).mono ?_;rintro e w1 ⟨rfl,hb1⟩))
  go_wp2
  go_ret
  exact⟨rfl,eR I⟩
theorem mA (d:Dev)  (M:devB d=false) (w:World) :
    Calls Tryz.prog 10 #[.agg #[.int .i64 d.W,.int .i64 d.H,.int .i64 d.T,.int .i64 d.R]] w fun e G=>e=.returned (.int .i64 0)∧Below w.heap.size w G:=by
  have h:=cY w d
  have D:=Lib.hid h
  go_enter Tryz.func10,Tryz.ntmps10
  go_wp2_with fail
  refine(eT d _).mono ?_
  rintro e w1 ⟨rfl,hb1⟩
  have B:=bX D.out hb1
  have E:=Lib.hid B
  clear h
  obtain⟨J,U,X,Y, -⟩:=B
  clear hb1
  have K:w.heap.size<w1.heap.size:=World.block_lt_of_cell? _ _ J
  go_wp2
  go_ret
  exact⟨rfl,eR E.out⟩
theorem mY (d:Dev) (n:Int) (h:devB d=true) (J:0≤n) (K:n≤allI d-1) (M:7≤n % perI d) (w:World) :
    Calls Tryz.prog 62 #[.agg #[.int .i64 d.W,.int .i64 d.H,.int .i64 d.T,.int .i64 d.R],.int .i64 n] w fun e U=>e=.returned (.tuple #[.int .i64 ((n % perI d-7) / d.T),.int .i64 ((n % perI d-7) % d.T)])∧Below w.heap.size w U:=by
  obtain⟨h1,h2⟩:=fR h
  obtain⟨m1,m2⟩:=eM h
  obtain⟨p0,p1,p2,X,p4⟩:=iE h J K
  obtain⟨-, -,⟨t1,t2⟩, -⟩:=(dI d).1 h
  obtain⟨g0,g1,g2,g3⟩:=kS h M X
  have B:=cY w d
  have E:=Lib.hid B
  go_enter Tryz.func62,Tryz.ntmps62
  go_wp2_with fail
  refine(eW d h _).mono ?_
  rintro e w1 ⟨rfl,hb1⟩
  have D:=bX E.out hb1
  have G:=Lib.hid D
  clear B
  obtain⟨Y,c1,c2,c3, -⟩:=D
  clear hb1
  have Z:w.heap.size<w1.heap.size:=World.block_lt_of_cell? _ _ Y
  go_wp2
  go_quiet (fail)
  go_wp2
  go_ret2
  exact⟨rfl,gF (eR G.out) _⟩
theorem iC (d:Dev) (t dir s:Int) (w:World) :
    Calls Tryz.prog 63 #[.agg #[.int .i64 d.W,.int .i64 d.H,.int .i64 d.T,.int .i64 d.R],.int .i64 t,.int .i64 dir,.int .i64 s] w fun e w'=>e=.returned (.int .i64 (tileStepI d t dir s))∧Below w.heap.size w w':=by
  rcases eq_false_or_eq_true (tOk d t) with hd|hd
  rotate_left
  · have hf := Lib.hid (show tileStepI d t dir s = -1 from if_neg (by simp [hd]))
    have hk:=Lib.hid (show tileKindI d t = -1 from if_neg (by simp[hd]))
    have hS0:=cY w d
    have HS0:=Lib.hid hS0
    go_enter Tryz.func63,Tryz.ntmps63
    go_wp2_with fail
    refine(cQ d t _).mono ?_
    rintro e w1 ⟨rfl,hb1⟩
    have hS1:=bX HS0.out hb1
    have HS1:=Lib.hid hS1
    clear hS0
    obtain⟨c0,c1,c2,c3, -⟩:=hS1
    clear hb1
    have hz1:w.heap.size<w1.heap.size:=World.block_lt_of_cell? _ _ c0
    rw[hk.out]
    go_wp2
    go_ret
    exact⟨fE hf.out.symm,eR HS1.out⟩
  have hk:0≤tileKindI d t:=by rw[show tileKindI d t=kindI d t from if_pos hd];rcases fX d t with h|h|h<;>omega
  rcases eq_false_or_eq_true (inR dir 0 3) with h1|h1
  rotate_left
  · have hf := Lib.hid (show tileStepI d t dir s = -1 from if_neg (by simp [h1]))
    have hS0:=cY w d
    have HS0:=Lib.hid hS0
    go_enter Tryz.func63,Tryz.ntmps63
    go_wp2_with fail
    refine(cQ d t _).mono ?_
    rintro e w1 ⟨rfl,hb1⟩
    have hS1:=bX HS0.out hb1
    have HS1:=Lib.hid hS1
    clear hS0
    obtain⟨c0,c1,c2,c3, -⟩:=hS1
    clear hb1
    have hz1:w.heap.size<w1.heap.size:=World.block_lt_of_cell? _ _ c0
    go_wp2_with fail
    refine(cX _ _ _ _).mono ?_
    rintro e w' ⟨rfl,rfl⟩
    go_wp2
    go_ret
    exact⟨fE hf.out.symm,eR HS1.out⟩
  rcases eq_false_or_eq_true (inR s 0 6) with h2|h2
  rotate_left
  · have hf := Lib.hid (show tileStepI d t dir s = -1 from if_neg (by simp [h2]))
    have hS0:=cY w d
    have HS0:=Lib.hid hS0
    go_enter Tryz.func63,Tryz.ntmps63
    go_wp2_with fail
    refine(cQ d t _).mono ?_
    rintro e w1 ⟨rfl,hb1⟩
    have hS1:=bX HS0.out hb1
    have HS1:=Lib.hid hS1
    clear hS0
    obtain⟨c0,c1,c2,c3, -⟩:=hS1
    clear hb1
    have hz1:w.heap.size<w1.heap.size:=World.block_lt_of_cell? _ _ c0
    go_wp2_with fail
    refine(cX _ _ _ _).mono ?_
    rintro e w' ⟨rfl,rfl⟩
    go_wp2_with fail
    refine(cX _ _ _ _).mono ?_
    rintro e w' ⟨rfl,rfl⟩
    go_wp2
    go_ret
    exact⟨fE hf.out.symm,eR HS1.out⟩
  have hf0:tileStepI d t dir s=stepI d t dir s:=if_pos ⟨hd,h1,h2⟩
  obtain⟨hv,t0,t1⟩:=(fC d t).1 hd
  obtain⟨r0,r1⟩:=(dA _ _ _).1 h1
  obtain⟨s0,s1⟩:=(dA _ _ _).1 h2
  obtain⟨x0,x1,y0,y1, -⟩:=oD hv t0 t1
  obtain⟨m1,m2⟩:=hU hv
  obtain⟨⟨a1,a2⟩,⟨b1,b2⟩, -, -⟩:=(dI d).1 hv
  have q1:¬d.W=0:=by omega
  have q2:IntKind.i64.wrap (t.tdiv d.W)=t / d.W:=IntWalk.i64_quo _ _ (by omega)
  have q3:t.tmod d.W=t % d.W:=Int.tmod_eq_emod_of_nonneg t0
  obtain rfl|rfl|rfl|rfl:dir=0∨dir=1∨dir=2∨dir=3:=by omega
  · have ex : dX 0 s = s := by simp [dX]
    have ey:dY 0 s=0:=by simp[dY]
    have gx:t % d.W+dX 0 s=t % d.W+s:=by first|(rw[ex];done)|(rw[ex];omega)
    have gy:t / d.W+dY 0 s=t / d.W:=by first|(rw[ey];done)|(rw[ey];omega)
    have o1:=@jL d t 0 s
    have o2:=@jK d t 0 s
    have o3:=@lY d t 0 s
    rw[gx] at o1 o3
    rw[gy] at o2 o3
    clear ex ey gx gy
    rcases eq_false_or_eq_true (inR (t % d.W+s) 0 (d.W-1)) with h3|h3
    rotate_left
    · have hf := Lib.hid (hf0.trans (o1 h3).symm)
      clear o1 o2 o3 hf0
      have hS0:=cY w d
      have HS0:=Lib.hid hS0
      go_enter Tryz.func63,Tryz.ntmps63
      go_wp2_with fail
      refine(cQ d t _).mono ?_
      rintro e w1 ⟨rfl,hb1⟩
      have hS1:=bX HS0.out hb1
      have HS1:=Lib.hid hS1
      clear hS0
      obtain⟨c0,c1,c2,c3, -⟩:=hS1
      clear hb1
      have hz1:w.heap.size<w1.heap.size:=World.block_lt_of_cell? _ _ c0
      go_wp2_with fail
      refine(cX _ _ _ _).mono ?_
      rintro e w' ⟨rfl,rfl⟩
      go_wp2_with fail
      refine(cX _ _ _ _).mono ?_
      rintro e w' ⟨rfl,rfl⟩
      go_wp2
      go_region
      go_wp2
      go_region
      go_wp2_with (go_at_call 58;refine(cX _ _ _ _).mono ?_;rintro e w' ⟨rfl,rfl⟩)
      go_ret
      exact⟨fE hf.out.symm,jG HS1.out⟩
    rcases eq_false_or_eq_true (inR (t / d.W) 0 (d.H-1)) with h4|h4
    rotate_left
    · have hf := Lib.hid (hf0.trans (o2 h4).symm)
      clear o1 o2 o3 hf0
      have hS0:=cY w d
      have HS0:=Lib.hid hS0
      go_enter Tryz.func63,Tryz.ntmps63
      go_wp2_with fail
      refine(cQ d t _).mono ?_
      rintro e w1 ⟨rfl,hb1⟩
      have hS1:=bX HS0.out hb1
      have HS1:=Lib.hid hS1
      clear hS0
      obtain⟨c0,c1,c2,c3, -⟩:=hS1
      clear hb1
      have hz1:w.heap.size<w1.heap.size:=World.block_lt_of_cell? _ _ c0
      go_wp2_with fail
      refine(cX _ _ _ _).mono ?_
      rintro e w' ⟨rfl,rfl⟩
      go_wp2_with fail
      refine(cX _ _ _ _).mono ?_
      rintro e w' ⟨rfl,rfl⟩
      go_wp2
      go_region
      go_wp2
      go_region
      go_wp2_with (go_at_call 58;refine(cX _ _ _ _).mono ?_;rintro e w' ⟨rfl,rfl⟩)
      go_ret
      exact⟨fE hf.out.symm,jG HS1.out⟩
    · have hf := Lib.hid (hf0.trans (o3 h3 h4).symm)
      clear o1 o2 o3 hf0
      obtain⟨i1,i2⟩:=(dA _ _ _).1 h3
      obtain⟨i3,i4⟩:=(dA _ _ _).1 h4
      have i5:0≤(t / d.W)*d.W∧(t / d.W)*d.W≤36:=⟨Int.mul_nonneg i3 (by omega),Int.le_trans (Int.mul_le_mul (show t / d.W≤6 by omega) a2 (by omega) (by omega)) (by omega)⟩
      have hS0:=cY w d
      have HS0:=Lib.hid hS0
      go_enter Tryz.func63,Tryz.ntmps63
      go_wp2_with fail
      refine(cQ d t _).mono ?_
      rintro e w1 ⟨rfl,hb1⟩
      have hS1:=bX HS0.out hb1
      have HS1:=Lib.hid hS1
      clear hS0
      obtain⟨c0,c1,c2,c3, -⟩:=hS1
      clear hb1
      have hz1:w.heap.size<w1.heap.size:=World.block_lt_of_cell? _ _ c0
      go_wp2_with fail
      refine(cX _ _ _ _).mono ?_
      rintro e w' ⟨rfl,rfl⟩
      go_wp2_with fail
      refine(cX _ _ _ _).mono ?_
      rintro e w' ⟨rfl,rfl⟩
      go_wp2
      go_region
      go_wp2
      go_region
      go_wp2_with (go_at_call 58;refine(cX _ _ _ _).mono ?_;rintro e w' ⟨rfl,rfl⟩)
      go_ret
      exact⟨fE hf.out.symm,jG HS1.out⟩
  · have ex : dX 1 s = 0 := by simp [dX]
    have ey:dY 1 s=s:=by simp[dY]
    have gx:t % d.W+dX 1 s=t % d.W:=by first|(rw[ex];done)|(rw[ex];omega)
    have gy:t / d.W+dY 1 s=t / d.W+s:=by first|(rw[ey];done)|(rw[ey];omega)
    have o1:=@jL d t 1 s
    have o2:=@jK d t 1 s
    have o3:=@lY d t 1 s
    rw[gx] at o1 o3
    rw[gy] at o2 o3
    clear ex ey gx gy
    rcases eq_false_or_eq_true (inR (t % d.W) 0 (d.W-1)) with h3|h3
    rotate_left
    · have hf := Lib.hid (hf0.trans (o1 h3).symm)
      clear o1 o2 o3 hf0
      have hS0:=cY w d
      have HS0:=Lib.hid hS0
      go_enter Tryz.func63,Tryz.ntmps63
      go_wp2_with fail
      refine(cQ d t _).mono ?_
      rintro e w1 ⟨rfl,hb1⟩
      have hS1:=bX HS0.out hb1
      have HS1:=Lib.hid hS1
      clear hS0
      obtain⟨c0,c1,c2,c3, -⟩:=hS1
      clear hb1
      have hz1:w.heap.size<w1.heap.size:=World.block_lt_of_cell? _ _ c0
      go_wp2_with fail
      refine(cX _ _ _ _).mono ?_
      rintro e w' ⟨rfl,rfl⟩
      go_wp2_with fail
      refine(cX _ _ _ _).mono ?_
      rintro e w' ⟨rfl,rfl⟩
      go_wp2
      go_region
      go_wp2
      go_region
      go_wp2_with (go_at_call 58;refine(cX _ _ _ _).mono ?_;rintro e w' ⟨rfl,rfl⟩)
      go_ret
      exact⟨fE hf.out.symm,jG HS1.out⟩
    rcases eq_false_or_eq_true (inR (t / d.W+s) 0 (d.H-1)) with h4|h4
    rotate_left
    · have hf := Lib.hid (hf0.trans (o2 h4).symm)
      clear o1 o2 o3 hf0
      have hS0:=cY w d
      have HS0:=Lib.hid hS0
      go_enter Tryz.func63,Tryz.ntmps63
      go_wp2_with fail
      refine(cQ d t _).mono ?_
      rintro e w1 ⟨rfl,hb1⟩
      have hS1:=bX HS0.out hb1
      have HS1:=Lib.hid hS1
      clear hS0
      obtain⟨c0,c1,c2,c3, -⟩:=hS1
      clear hb1
      have hz1:w.heap.size<w1.heap.size:=World.block_lt_of_cell? _ _ c0
      go_wp2_with fail
      refine(cX _ _ _ _).mono ?_
      rintro e w' ⟨rfl,rfl⟩
      go_wp2_with fail
      refine(cX _ _ _ _).mono ?_
      rintro e w' ⟨rfl,rfl⟩
      go_wp2
      go_region
      go_wp2
      go_region
      go_wp2_with (go_at_call 58;refine(cX _ _ _ _).mono ?_;rintro e w' ⟨rfl,rfl⟩)
      go_ret
      exact⟨fE hf.out.symm,jG HS1.out⟩
    · have hf := Lib.hid (hf0.trans (o3 h3 h4).symm)
      clear o1 o2 o3 hf0
      obtain⟨i1,i2⟩:=(dA _ _ _).1 h3
      obtain⟨i3,i4⟩:=(dA _ _ _).1 h4
      have i5:0≤(t / d.W+s)*d.W∧(t / d.W+s)*d.W≤36:=⟨Int.mul_nonneg i3 (by omega),Int.le_trans (Int.mul_le_mul (show t / d.W+s≤6 by omega) a2 (by omega) (by omega)) (by omega)⟩
      have hS0:=cY w d
      have HS0:=Lib.hid hS0
      go_enter Tryz.func63,Tryz.ntmps63
      go_wp2_with fail
      refine(cQ d t _).mono ?_
      rintro e w1 ⟨rfl,hb1⟩
      have hS1:=bX HS0.out hb1
      have HS1:=Lib.hid hS1
      clear hS0
      obtain⟨c0,c1,c2,c3, -⟩:=hS1
      clear hb1
      have hz1:w.heap.size<w1.heap.size:=World.block_lt_of_cell? _ _ c0
      go_wp2_with fail
      refine(cX _ _ _ _).mono ?_
      rintro e w' ⟨rfl,rfl⟩
      go_wp2_with fail
      refine(cX _ _ _ _).mono ?_
      rintro e w' ⟨rfl,rfl⟩
      go_wp2
      go_region
      go_wp2
      go_region
      go_wp2_with (go_at_call 58;refine(cX _ _ _ _).mono ?_;rintro e w' ⟨rfl,rfl⟩)
      go_ret
      exact⟨fE hf.out.symm,jG HS1.out⟩
  · have ex : dX 2 s = -s := by simp [dX]
    have ey:dY 2 s=0:=by simp[dY]
    have gx:t % d.W+dX 2 s=t % d.W + -s:=by first|(rw[ex];done)|(rw[ex];omega)
    have gy:t / d.W+dY 2 s=t / d.W:=by first|(rw[ey];done)|(rw[ey];omega)
    have o1:=@jL d t 2 s
    have o2:=@jK d t 2 s
    have o3:=@lY d t 2 s
    rw[gx] at o1 o3
    rw[gy] at o2 o3
    clear ex ey gx gy
    rcases eq_false_or_eq_true (inR (t % d.W + -s) 0 (d.W-1)) with h3|h3
    rotate_left
    · have hf := Lib.hid (hf0.trans (o1 h3).symm)
      clear o1 o2 o3 hf0
      have hS0:=cY w d
      have HS0:=Lib.hid hS0
      go_enter Tryz.func63,Tryz.ntmps63
      go_wp2_with fail
      refine(cQ d t _).mono ?_
      rintro e w1 ⟨rfl,hb1⟩
      have hS1:=bX HS0.out hb1
      have HS1:=Lib.hid hS1
      clear hS0
      obtain⟨c0,c1,c2,c3, -⟩:=hS1
      clear hb1
      have hz1:w.heap.size<w1.heap.size:=World.block_lt_of_cell? _ _ c0
      go_wp2_with fail
      refine(cX _ _ _ _).mono ?_
      rintro e w' ⟨rfl,rfl⟩
      go_wp2_with fail
      refine(cX _ _ _ _).mono ?_
      rintro e w' ⟨rfl,rfl⟩
      go_wp2
      go_region
      go_wp2
      go_region
      go_wp2_with (go_at_call 58;refine(cX _ _ _ _).mono ?_;rintro e w' ⟨rfl,rfl⟩)
      go_ret
      exact⟨fE hf.out.symm,jG HS1.out⟩
    rcases eq_false_or_eq_true (inR (t / d.W) 0 (d.H-1)) with h4|h4
    rotate_left
    · have hf := Lib.hid (hf0.trans (o2 h4).symm)
      clear o1 o2 o3 hf0
      have hS0:=cY w d
      have HS0:=Lib.hid hS0
      go_enter Tryz.func63,Tryz.ntmps63
      go_wp2_with fail
      refine(cQ d t _).mono ?_
      rintro e w1 ⟨rfl,hb1⟩
      have hS1:=bX HS0.out hb1
      have HS1:=Lib.hid hS1
      clear hS0
      obtain⟨c0,c1,c2,c3, -⟩:=hS1
      clear hb1
      have hz1:w.heap.size<w1.heap.size:=World.block_lt_of_cell? _ _ c0
      go_wp2_with fail
      refine(cX _ _ _ _).mono ?_
      rintro e w' ⟨rfl,rfl⟩
      go_wp2_with fail
      refine(cX _ _ _ _).mono ?_
      rintro e w' ⟨rfl,rfl⟩
      go_wp2
      go_region
      go_wp2
      go_region
      go_wp2_with (go_at_call 58;refine(cX _ _ _ _).mono ?_;rintro e w' ⟨rfl,rfl⟩)
      go_ret
      exact⟨fE hf.out.symm,jG HS1.out⟩
    · have hf := Lib.hid (hf0.trans (o3 h3 h4).symm)
      clear o1 o2 o3 hf0
      obtain⟨i1,i2⟩:=(dA _ _ _).1 h3
      obtain⟨i3,i4⟩:=(dA _ _ _).1 h4
      have i5:0≤(t / d.W)*d.W∧(t / d.W)*d.W≤36:=⟨Int.mul_nonneg i3 (by omega),Int.le_trans (Int.mul_le_mul (show t / d.W≤6 by omega) a2 (by omega) (by omega)) (by omega)⟩
      have hS0:=cY w d
      have HS0:=Lib.hid hS0
      go_enter Tryz.func63,Tryz.ntmps63
      go_wp2_with fail
      refine(cQ d t _).mono ?_
      rintro e w1 ⟨rfl,hb1⟩
      have hS1:=bX HS0.out hb1
      have HS1:=Lib.hid hS1
      clear hS0
      obtain⟨c0,c1,c2,c3, -⟩:=hS1
      clear hb1
      have hz1:w.heap.size<w1.heap.size:=World.block_lt_of_cell? _ _ c0
      go_wp2_with fail
      refine(cX _ _ _ _).mono ?_
      rintro e w' ⟨rfl,rfl⟩
      go_wp2_with fail
      refine(cX _ _ _ _).mono ?_
      rintro e w' ⟨rfl,rfl⟩
      go_wp2
      go_region
      go_wp2
      go_region
      go_wp2_with (go_at_call 58;refine(cX _ _ _ _).mono ?_;rintro e w' ⟨rfl,rfl⟩)
      go_ret
      exact⟨fE hf.out.symm,jG HS1.out⟩
  · have ex : dX 3 s = 0 := by simp [dX]
    have ey:dY 3 s = -s:=by simp[dY]
    have gx:t % d.W+dX 3 s=t % d.W:=by first|(rw[ex];done)|(rw[ex];omega)
    have gy:t / d.W+dY 3 s=t / d.W + -s:=by first|(rw[ey];done)|(rw[ey];omega)
    have o1:=@jL d t 3 s
    have o2:=@jK d t 3 s
    have o3:=@lY d t 3 s
    rw[gx] at o1 o3
    rw[gy] at o2 o3
    clear ex ey gx gy
    rcases eq_false_or_eq_true (inR (t % d.W) 0 (d.W-1)) with h3|h3
    rotate_left
    · have hf := Lib.hid (hf0.trans (o1 h3).symm)
      clear o1 o2 o3 hf0
      have hS0:=cY w d
      have HS0:=Lib.hid hS0
      go_enter Tryz.func63,Tryz.ntmps63
      go_wp2_with fail
      refine(cQ d t _).mono ?_
      rintro e w1 ⟨rfl,hb1⟩
      have hS1:=bX HS0.out hb1
      have HS1:=Lib.hid hS1
      clear hS0
      obtain⟨c0,c1,c2,c3, -⟩:=hS1
      clear hb1
      have hz1:w.heap.size<w1.heap.size:=World.block_lt_of_cell? _ _ c0
      go_wp2_with fail
      refine(cX _ _ _ _).mono ?_
      rintro e w' ⟨rfl,rfl⟩
      go_wp2_with fail
      refine(cX _ _ _ _).mono ?_
      rintro e w' ⟨rfl,rfl⟩
      go_wp2
      go_region
      go_wp2
      go_region
      go_wp2_with (go_at_call 58;refine(cX _ _ _ _).mono ?_;rintro e w' ⟨rfl,rfl⟩)
      go_ret
      exact⟨fE hf.out.symm,jG HS1.out⟩
    rcases eq_false_or_eq_true (inR (t / d.W + -s) 0 (d.H-1)) with h4|h4
    rotate_left
    · have hf := Lib.hid (hf0.trans (o2 h4).symm)
      clear o1 o2 o3 hf0
      have hS0:=cY w d
      have HS0:=Lib.hid hS0
      go_enter Tryz.func63,Tryz.ntmps63
      go_wp2_with fail
      refine(cQ d t _).mono ?_
      rintro e w1 ⟨rfl,hb1⟩
      have hS1:=bX HS0.out hb1
      have HS1:=Lib.hid hS1
      clear hS0
      obtain⟨c0,c1,c2,c3, -⟩:=hS1
      clear hb1
      have hz1:w.heap.size<w1.heap.size:=World.block_lt_of_cell? _ _ c0
      go_wp2_with fail
      refine(cX _ _ _ _).mono ?_
      rintro e w' ⟨rfl,rfl⟩
      go_wp2_with fail
      refine(cX _ _ _ _).mono ?_
      rintro e w' ⟨rfl,rfl⟩
      go_wp2
      go_region
      go_wp2
      go_region
      go_wp2_with (go_at_call 58;refine(cX _ _ _ _).mono ?_;rintro e w' ⟨rfl,rfl⟩)
      go_ret
      exact⟨fE hf.out.symm,jG HS1.out⟩
    · have hf := Lib.hid (hf0.trans (o3 h3 h4).symm)
      clear o1 o2 o3 hf0
      obtain⟨i1,i2⟩:=(dA _ _ _).1 h3
      obtain⟨i3,i4⟩:=(dA _ _ _).1 h4
      have i5:0≤(t / d.W + -s)*d.W∧(t / d.W + -s)*d.W≤36:=⟨Int.mul_nonneg i3 (by omega),Int.le_trans (Int.mul_le_mul (show t / d.W + -s≤6 by omega) a2 (by omega) (by omega)) (by omega)⟩
      have hS0:=cY w d
      have HS0:=Lib.hid hS0
      go_enter Tryz.func63,Tryz.ntmps63
      go_wp2_with fail
      refine(cQ d t _).mono ?_
      rintro e w1 ⟨rfl,hb1⟩
      have hS1:=bX HS0.out hb1
      have HS1:=Lib.hid hS1
      clear hS0
      obtain⟨c0,c1,c2,c3, -⟩:=hS1
      clear hb1
      have hz1:w.heap.size<w1.heap.size:=World.block_lt_of_cell? _ _ c0
      go_wp2_with fail
      refine(cX _ _ _ _).mono ?_
      rintro e w' ⟨rfl,rfl⟩
      go_wp2_with fail
      refine(cX _ _ _ _).mono ?_
      rintro e w' ⟨rfl,rfl⟩
      go_wp2
      go_region
      go_wp2
      go_region
      go_wp2_with (go_at_call 58;refine(cX _ _ _ _).mono ?_;rintro e w' ⟨rfl,rfl⟩)
      go_ret
      exact⟨fE hf.out.symm,jG HS1.out⟩
open Go.RowKit
def btI (k:Int):Int:=if k=0∨k=1 then 0 else if k=2 then 2 else if k=3 then 1 else -1
def tlL (d:Dev) (k:Int):Nat→List Int
  | 0=>[]
  | t+1=>if tileKindI d (t:Int)=k then tlL d k t++[(t:Int)] else tlL d k t
def tilesK (d:Dev) (k:Int):List Int:=tlL d k (d.W*d.H).toNat
theorem By (d:Dev) (k:Int):∀t,(tlL d k t).length≤t
  | 0=>Nat.le_refl _
  | t+1=>by have:=By d k t;unfold tlL;split<;>first|(rw[length_append,length_singleton];omega)|omega
theorem tD (d : Dev) (k : Int) : ∀ t x, x ∈ tlL d k t ↔ (0 ≤ x ∧ x < (t : Int)) ∧ tileKindI d x = k
  | 0,x=>by constructor<;>intro h;(cases h);(omega)
  | t+1,x=>by
    unfold tlL
    split
    · rename_i hk
      rw[List.mem_append,tD d k t x,mem_singleton]
      constructor
      · rintro (⟨h1, h2⟩ | rfl)
        · exact⟨by omega,h2⟩
        · exact⟨by omega,hk⟩
      · rintro ⟨h1, h2⟩
        by_cases e:x=(t:Int)
        · exact .inr e
        · exact .inl ⟨by omega,h2⟩
    · rename_i hk
      rw[tD d k t x]
      constructor
      · rintro ⟨h1,h2⟩;exact⟨by omega,h2⟩
      · rintro ⟨h1, h2⟩
        refine⟨⟨h1.1,?_⟩,h2⟩
        have:x≠(t:Int):=fun e=>hk (by rw[←e];exact h2)
        omega
theorem rM (d:Dev) (k:Int):∀t,(tlL d k t).Nodup
  | 0=>List.nodup_nil
  | t+1=>by
    unfold tlL
    split
    · rw [List.nodup_append]
      refine⟨rM d k t,by simp,fun a ha b hb=>?_⟩
      rw[mem_singleton] at hb
      have:=((tD d k t a).1 ha).1
      omega
    · exact rM d k t
theorem mW {d:Dev}(h:devB d=true):9≤d.W*d.H∧d.W*d.H≤36:=by
  obtain⟨⟨a,b⟩,⟨c,e⟩, -⟩:=(dI d).1 h
  have B:3*3≤d.W*d.H:=Int.mul_le_mul a c O O
  have D:d.W*d.H≤6*6:=Int.mul_le_mul b e O O
  omega
theorem pZ (k:Int) (w:World)  :
   Calls Tryz.prog 116 #[.int .i64 k] w (Ans w (.int .i64 (btI k))):=by
 refine aY (N:=11) (args:=[jI k]) Tryz.func116 A A (cF 1 A (aG (cF 1 A (go ?_))))
 refine bZ A A A A A A (fun e=>go ?_) (fun e=>go ?_)
 exact aT A A (by unfold btI;first|rw[if_pos O]|rw[if_neg O,if_pos O]|rw[if_neg O,if_neg O,if_pos O]|rw[if_neg O,if_neg O,if_neg O])
 refine bZ A A A A A A (fun h=>go ?_) (fun h=>go ?_)
 exact aT A A (by unfold btI;first|rw[if_pos O]|rw[if_neg O,if_pos O]|rw[if_neg O,if_neg O,if_pos O]|rw[if_neg O,if_neg O,if_neg O])
 refine bZ A A A A A A (fun B=>go ?_) (fun B=>go ?_)
 exact aT A A (by unfold btI;first|rw[if_pos O]|rw[if_neg O,if_pos O]|rw[if_neg O,if_neg O,if_pos O]|rw[if_neg O,if_neg O,if_neg O])
 refine bZ A A A A A A (fun D=>go ?_) (fun D=>go ?_)
 exact aT A A (by unfold btI;first|rw[if_pos O]|rw[if_neg O,if_pos O]|rw[if_neg O,if_neg O,if_pos O]|rw[if_neg O,if_neg O,if_neg O])
 exact aT A A (by unfold btI;first|rw[if_pos O]|rw[if_neg O,if_pos O]|rw[if_neg O,if_neg O,if_pos O]|rw[if_neg O,if_neg O,if_neg O])
theorem qR (e:List Bk) (v:Value) (w:World) (h:RdsBk w v e) (J:e.length≤1000) :
   Calls Tryz.prog 97 #[v] w (Ret w (fun K post=>post=[rI9 3 K (e.map Bk.kd)])):=by
 have G:=vV h.row
 refine aY (N:=21) (args:=[v]) Tryz.func97 A A (cF 1 A (dW ?_))
 refine cH A (bU (s:=1) A z8 A) fun Y=>go ?_
 refine fP (α:=Nat) (β:=Value) (γ:=List Int) [0,2] A (fun i B zs=>[rI9 3 B zs]) (fun i B zs=>[(3,B),(4,jI (i:Int))]) (fun i B zs=>i≤e.length∧zs=(e.take i).map Bk.kd) (fun i B zs=>e.length-i) 0 _ [] ⟨Nat.zero_le _,A⟩ (bV A) (cZ A) fun i B zs D=>go ?_
 obtain⟨Z,E⟩:=D
 have M:zs.length=i:=by rw[E,length_map,length_take];omega
 refine aN A (eV A A A (aE h.row)) ?_
 refine aW A A A A A A (fun U=>go ?_) (fun U=>go ?_)
 refine aN A (cV 3 A A A A (aE h.row)) (aN A (bR (k0:=0) A A A (aE h.row) O) ?_)
 refine aN A (aL (u:=jI ((e.getD i bk0).kd)) A A A (aE h.row) ((dC bkC 3 (fun _=>A) e bk0 (show i<_ by omega) V).trans A)) (cH A (aH (z:=jI 0) (s:=1) (cs:=(mI [(e.getD i bk0).kd])) A z8 A V A F A) fun g4=>?_)
 refine bT (i:=1) (z:=jI 0) (bytes:=8) A A A A z8 F A A A A (aB 0 A) (bI _) AD (bK zs ([(e.getD i bk0).kd])) (cB zs ([(e.getD i bk0).kd])) (fun _=>A) fun X=>go ?_
 exact aQ (i+1) X (zs++([(e.getD i bk0).kd])) ⟨O,by rw[E,hY bk0 (show i<e.length by omega),map_append];rfl⟩ O (bV rfl) (eA [1] rfl)
 exact bM (post:=[rI9 3 B zs]) A A (cZ A) (by rw[E,List.take_of_length_le O])
theorem nG (d:Dev) (k:Int) (w:World) (h:devB d=true) :
   Calls Tryz.prog 101 #[.agg #[.int .i64 d.W,.int .i64 d.H,.int .i64 d.T,.int .i64 d.R],.int .i64 k] w (Ret w (fun K post=>post=[rI9 3 K (tilesK d k)])):=by
 obtain⟨E,G⟩:=mW h
 refine aY (N:=31) (args:=[.agg #[jI d.W,jI d.H,jI d.T,jI d.R],jI k]) Tryz.func101 A A (dW ?_)
 refine cU A (cE A A) fun M=>go ?_
 refine cH A (bU (s:=1) A z8 A) fun g2=>go ?_
 refine cM A (aF A A (fun w U=>aI (by have J:=eT d w;rw[h] at J;exact J))) (go ?_)
 refine fP (α:=Nat) (β:=Value) (γ:=List Int) [0,1,2,4,10] A (fun t e zs=>[rI9 3 e zs,boxE M #[jI d.W,jI d.H,jI d.T,jI d.R] 25]) (fun t e zs=>[(5,e),(6,jI (t:Int))]) (fun t e zs=>(t:Int)≤d.W*d.H∧zs=tlL d k t) (fun t e zs=>(d.W*d.H).toNat-t) 0 _ [] ⟨O,A⟩ (bV A) (cZ A) fun t e zs D=>go ?_
 obtain⟨ht,B⟩:=D
 have X:zs.length≤t:=by rw[B];exact By d k t
 refine aN A (eZ A A A AE) ?_
 refine aW A A A A A A (fun Y=>go ?_) (fun Y=>go ?_)
 refine cM A (aF A A (fun w U=>aI (cQ d (t:Int) w))) (go ?_)
 refine bZ A A A A A A (fun Z=>go ?_) (fun Z=>go ?_)
 refine cH A (aH (z:=jI 0) (s:=1) (cs:=(mI [(t:Int)])) A z8 A V A F A) fun g6=>?_
 refine bT (i:=1) (z:=jI 0) (bytes:=8) A A A A z8 F A A A A (aB 0 A) (bI _) AD (bK zs ([(t:Int)])) (cB zs ([(t:Int)])) (fun _=>A) fun v7=>go ?_
 exact aQ (t+1) v7 (zs++([(t:Int)])) ⟨O,by rw[B];show _=(if _ then _ else _);first|rw[if_pos O]|rw[if_neg O]⟩ O (bV rfl) (eA [1,0] rfl)
 exact aQ (t+1) e zs ⟨O,by rw[B];show _=(if _ then _ else _);first|rw[if_pos O]|rw[if_neg O]⟩ O (bV rfl) (cZ rfl)
 exact bM (post:=[rI9 3 e zs]) A A (eA [0] A) (by rw[B,show t=(d.W*d.H).toNat by omega];rfl)
theorem mH:∀(us h:List Int),us.Nodup→(∀x∈us,x∈h)→us.length≤h.length
  | [],_,_,_=>Nat.zero_le _
  | u::us,h,hn,hs=>by
    rw[List.nodup_cons] at hn
    have D:u∈h:=hs u mem_cons_self
    have:=mH us (h.erase u) hn.2 fun x E=>by
      have B:x≠u:=fun e=>hn.1 (e▸E)
      exact(List.mem_erase_of_ne B).2 (hs x (mem_cons_of_mem _ E))
    rw[List.length_erase_of_mem D] at this
    have G:=List.length_pos_of_mem D
    rw[length_cons];omega
theorem Eo (P Q:Int→Bool):∀(a b:List Int),a.length=b.length→(∀i,i<a.length→P (a.getD i 0)=Q (b.getD i 0))→(a.filter P).length=(b.filter Q).length
  | [],[],_,_=>rfl
  | [],_::_,h,_=>by cases h
  | _::_,[],h,_=>by cases h
  | x::a,y::b,h,hp=>by
    have e:P x=Q y:=hp 0 (by rw[length_cons];omega)
    have ih:=Eo P Q a b (by rw[length_cons,length_cons] at h;omega) fun i B=>hp (i+1) (by rw[length_cons];omega)
    rw[List.filter_cons,List.filter_cons,e]
    split
    · rw[length_cons,length_cons,ih]
    · exact ih
structure PlP (d:Dev) (ks zs:List Int):Prop where
  kd:∀q,q<zs.length→tileKindI d (zs.getD q 0)=btI (ks.getD q 0)
  rg:∀q,q<zs.length→0≤zs.getD q 0∧zs.getD q 0<d.W*d.H
  nd:zs.Nodup
  le:zs.length≤ks.length
def Fits (d:Dev) (ks:List Int):Prop:=∀c:Int,(ks.filter (fun k=>btI k==c)).length≤(tilesK d c).length
theorem PlP.nil (d:Dev) (h:List Int):PlP d h []:=⟨fun q e=>absurd e AI,fun q e=>absurd e AI,List.nodup_nil,Nat.zero_le _⟩
theorem iO {d:Dev}(e:devB d=true) {c x:Int}:x∈tilesK d c↔(0≤x∧x<d.W*d.H)∧tileKindI d x=c:=by
  have:=mW e
  unfold tilesK;rw[tD];rw[show(((d.W*d.H).toNat:Nat):Int)=d.W*d.H by omega]
theorem PlP.app {d:Dev}(hd:devB d=true) {ks zs:List Int}(h:PlP d ks zs) (hl:zs.length<ks.length) {x:Int}(hx:x∈tilesK d (btI (ks.getD zs.length 0))) (hn:x∉zs):PlP d ks (zs++[x]):=by
  obtain⟨hx1,hx2⟩:=(iO hd).1 hx
  refine⟨fun q hq=>?_,fun q hq=>?_,?_,by rw[length_append,length_singleton];omega⟩
  · rw [length_append, length_singleton] at hq
    by_cases e:q<zs.length
    · rw[gM e];exact h.kd q e
    · obtain rfl : q = zs.length := by omega
      rw[hC (Nat.le_refl _),Nat.sub_self];exact hx2
  · rw [length_append, length_singleton] at hq
    by_cases e:q<zs.length
    · rw[gM e];exact h.rg q e
    · obtain rfl : q = zs.length := by omega
      rw[hC (Nat.le_refl _),Nat.sub_self];exact hx1
  · rw [List.nodup_append]
    refine⟨h.nd,by simp,fun a ha b hb=>?_⟩
    rw[mem_singleton] at hb;subst hb
    exact fun e=>hn (e▸ha)
theorem PlP.count {d:Dev}{B zs:List Int}(h:PlP d B zs) (c:Int):((B.take zs.length).filter (fun k=>btI k==c)).length=(zs.filter (fun x=>tileKindI d x==c)).length:=by
  have E:=h.le
  have e:(B.take zs.length).length=zs.length:=by rw[length_take];omega
  refine Eo _ _ _ _ e fun i D=>?_
  rw[e] at D
  rw[show(B.take zs.length).getD i 0=B.getD i 0 by rw[getD_eq_getElem?_getD,List.getElem?_take_of_lt D,←getD_eq_getElem?_getD],h.kd i D]
theorem PlP.mem_rg {d:Dev}{B zs:List Int}(h:PlP d B zs) {x:Int}(D:x∈zs):0≤x∧x<d.W*d.H:=by
  obtain⟨q,e,rfl⟩:=List.mem_iff_getElem.1 D
  have:=h.rg q e
  rwa [getD_eq_getElem?_getD,List.getElem?_eq_getElem e] at this
theorem PlP.fits {d:Dev}(E:devB d=true) {e zs:List Int}(h:PlP d e zs) (G:zs.length=e.length):Fits d e:=fun c=>by
  have D:=h.count c
  rw[G,take_length] at D
  rw[D]
  refine mH _ _ (h.nd.filter _) fun x B=>?_
  rw[List.mem_filter] at B
  exact(iO E).2 ⟨h.mem_rg B.1,by simpa using B.2⟩
theorem PlP.short {d:Dev}(E:devB d=true) {e zs:List Int}(h:PlP d e zs) (G:zs.length<e.length) (B:∀x∈tilesK d (btI (e.getD zs.length 0)),x∈zs):¬Fits d e:=fun J=>by
  have K:=J (btI (e.getD zs.length 0))
  have M:=h.count (btI (e.getD zs.length 0))
  have U:=mH (tilesK d (btI (e.getD zs.length 0))) (zs.filter (fun x=>tileKindI d x==btI (e.getD zs.length 0))) (rM _ _ _) fun x D=>by
    rw[List.mem_filter];exact⟨B x D,by simpa using ((iO E).1 D).2⟩
  have X:((e.take (zs.length+1)).filter (fun k=>btI k==btI (e.getD zs.length 0))).length=((e.take zs.length).filter (fun k=>btI k==btI (e.getD zs.length 0))).length+1:=by
    rw[hY 0 G,List.filter_append,length_append];simp
  have Y:=((List.take_sublist (zs.length+1) e).filter (fun k=>btI k==btI (e.getD zs.length 0))).length_le
  omega
theorem Jc {n s:Int}(e:0<n) {P:Int→Prop}(h:∀q:Int,0≤q→q<n→P ((s+q) % n)):∀i:Int,0≤i→i<n→P i:=fun i B D=>by
  have:=h ((i-s) % n) (Int.emod_nonneg _ O) (Int.emod_lt_of_pos _ e)
  rwa [Int.add_emod_emod,show s+(i-s)=i by omega,Int.emod_eq_of_lt B D] at this
theorem zL {T zs:List Int}{s:Int}(h:∀q:Nat,q<T.length→T.getD ((s+(q:Int)) % (T.length:Int)).toNat 0∈zs):∀x∈T,x∈zs:=fun x e=>by
  obtain⟨i,B,rfl⟩:=List.mem_iff_getElem.1 e
  have:=Jc (n:=(T.length:Int)) (s:=s) O (P:=fun i=>T.getD i.toNat 0∈zs) (fun q D E=>by
    have:=h q.toNat O
    rwa [Int.toNat_of_nonneg D] at this) (i:Int) O O
  rwa [Int.toNat_natCast,getD_eq_getElem?_getD,List.getElem?_eq_getElem B] at this
def lenN (v:Value):Nat:=match v with | .slice _ n _=>n|_=>0
theorem oL {w:World}{v:Value}{s n:Nat}{cs:List Value}(h:RdsW w v s n cs):lenN v=n:=by obtain⟨a,c,rfl, -⟩:=h;rfl
theorem Jz {w0:World}{l:List HP}{v:Value}{s n:Nat}{cs:List Value}(h:Rd w0 l v s n cs):Rd w0 l v s (lenN v) cs:=fun w B=>by have e:=h w B;rw[oL e];exact e
def UsP (zs:List Int) (us:List Bl):Prop:=∀t:Nat,t<us.length→((us.getD t bl0).b=true↔(t:Int)∈zs)
theorem UsP.nil (n:Nat):UsP [] (replicate n bl0):=fun t e=>by
  rw[length_replicate] at e
  rw[getD_eq_getElem?_getD,List.getElem?_eq_getElem (by rw[length_replicate];exact e)]
  simp
theorem UsP.app {zs:List Int}{us:List Bl}(h:UsP zs us) {x:Int}(hx:0≤x) {y:Bl}(hy:y.b=true):UsP (zs++[x]) (us.set x.toNat y):=fun t ht=>by
  rw[length_set] at ht
  rw[getD_eq_getElem?_getD,List.getElem?_set,List.mem_append,mem_singleton]
  by_cases e:x.toNat=t
  · subst e
    rw[if_pos rfl,if_pos ht]
    exact⟨fun _=>.inr (by omega),fun _=>hy⟩
  · rw [if_neg e, ← getD_eq_getElem?_getD, h t ht]
    exact⟨.inl,fun q=>q.resolve_right (by omega)⟩
theorem two_io {d:Dev}(hd:devB d=true):Fits d [0,1]:=fun c=>by
  obtain⟨⟨a,b⟩,⟨c',e⟩, -⟩:=(dI d).1 hd
  have har:=mW hd
  by_cases hc:c=0
  · subst hc
    have hk0:∀x:Int,0≤x∧x<3→tileKindI d x=0:=fun x hx=>by
      unfold tileKindI;rw[if_pos ((fC d x).2 ⟨hd,by omega,by omega⟩)];unfold kindI;rw[if_pos (.inr (.inl (Int.ediv_eq_zero_of_lt (by omega) (by omega))))]
    have h0:(0:Int)∈tilesK d 0:=(iO hd).2 ⟨by omega,hk0 0 (by omega)⟩
    have h1:(1:Int)∈tilesK d 0:=(iO hd).2 ⟨by omega,hk0 1 (by omega)⟩
    have:=mH [0,1] (tilesK d 0) (by decide) (fun x hx=>by
      rcases List.mem_cons.1 hx with rfl|hx
      · exact h0
      · rw[mem_singleton] at hx;subst hx;exact h1)
    show(([0,1]:List Int).filter (fun k=>btI k==0)).length≤_
    exact Nat.le_trans (by decide) this
  · have:(([0,1]:List Int).filter (fun k=>btI k==c))=[]:=by
      rw[List.filter_eq_nil_iff]
      intro x hx
      have:btI x=0:=by
        rcases List.mem_cons.1 hx with rfl|hx
        · rfl
        · rw[mem_singleton] at hx;subst hx;rfl
      rw[this];simp;exact fun e=>hc e.symm
    rw[this];exact Nat.zero_le _
theorem vT (g:Nat) (a:Option Addr) (e h:Nat) (z:List Int) (n:Int) (w0:World) (l:List HP) (w:World) (D:Mem w0 (curE g a e h::l) w) (U:n≤0) :
   Calls Tryz.prog 47 #[.pointer (some ⟨g,0,none⟩),.int .i64 n] w (fun J K=>∃E B,J=.returned E∧(fun M B=>M=.int .i64 0∧B=curE g a e h) E B∧Mem w0 (B::l) K):=by
 refine gE (N:=37) (args:=[pI g,jI n]) Tryz.func47 A A D (cF 1 A (aG (aG (cN 1 A ?_))))
 refine iA A A A A A A (fun G=>go ?_) (fun G=>absurd G O)
 exact mT (p':=curE g a e h) A A (.refl _) ⟨A,A⟩
theorem iT (g:Nat) (a:Option Addr) (len cap:Nat) (z:List Int) (n:Int) (w0:World) (l:List HP) (w:World) (hm0:Mem w0 (curE g a len cap::l) w) (hb:BRow .u8 w0 a len cap z) (hn:n≤4294967296) :
   Calls Tryz.prog 47 #[.pointer (some ⟨g,0,none⟩),.int .i64 n] w (fun e_ w_=>∃v_ p_,e_=.returned v_∧(fun u_ p_=>(∃x:Int,u_=.int .i64 x∧0≤x∧(1≤n→x<n))∧p_=curE g a len cap) v_ p_∧Mem w0 (p_::l) w_):=by
  by_cases h:1≤n
  · refine (dT g a len cap z n w0 l w hm0 hb ⟨h, hn⟩).mono ?_
    rintro e w' ⟨v,p,he,⟨⟨x,hx,h0,h1⟩,hp⟩,hm⟩
    exact⟨v,p,he,⟨⟨x,hx,h0,fun _=>h1⟩,hp⟩,hm⟩
  · refine (vT g a len cap z n w0 l w hm0 (by omega)).mono ?_
    rintro e w' ⟨v,p,he,⟨hx,hp⟩,hm⟩
    exact⟨v,p,he,⟨⟨0,hx,Int.le_refl _,fun h9=>absurd h9 h⟩,hp⟩,hm⟩
theorem kN (g:Nat) (a:Option Addr) (E G:Nat) (z:List Int) (d:Dev) (B:List Int) (kv:Value) (w0:World) (l:List HP) (w:World) (am:Mem w0 (curE g a E G::l) w) (hb:BRow .u8 w0 a E G z) (J:devB d=true) (aa:Rd w0 l kv 1 B.length (B.map (Value.int .i64))) (b7:B.length≤64) :
   Calls Tryz.prog 99 #[.pointer (some ⟨g,0,none⟩),.agg #[.int .i64 d.W,.int .i64 d.H,.int .i64 d.T,.int .i64 d.R],kv] w (fun e_ w_=>∃v_ X,e_=.returned v_∧(fun u_ X=>∃zs:List Int,X=bigE [curE g a E G,rI9 3 u_ zs]∧(lenN u_=zs.length∧u_.oneCell'=true)∧((Fits d B∧zs.length=B.length∧PlP d B zs)∨(¬Fits d B∧zs=[]))) v_ X∧Mem w0 (X::l) w_):=by
 obtain⟨b0,b2⟩:=mW J
 refine gE (N:=75) (args:=[pI g,.agg #[jI d.W,jI d.H,jI d.T,jI d.R],kv]) Tryz.func99 A A am (dW ?_)
 refine cU A (cE A A) ?_
 intro b1
 refine bG 1 A (dW ?_)
 refine cH A (bU (s:=1) A z8 A) ?_
 intro g2
 refine bG 1 A (dW (aN A (fY 0 A A A) (aN A (bJ A A A (bA 1 A A)) (aN A (fY 1 A A A) (aN A (bJ A A A (bA 1 A A)) (aN A (eZ A A A AE) ?_))))))
 refine cH A (fB (z:=.bool false) (s:=1) (bytes:=1) (n:=(replicate (d.W*d.H).toNat bl0).length) (cs:=((replicate (d.W*d.H).toNat bl0).flatMap blC)) A Tryz.underlying61 A V A A AB AB AF (fZ blC 1 (fun _=>A) bl0 _ A (d.W*d.H).toNat)) ?_
 intro g3
 refine bG 1 A (aG (cF 1 A (bS ?_)))
 refine fP (α:=Nat) (β:=Value×List Int) (γ:=List Bl) [0,1,2,4,6,8] A (fun b U us=>(rS9 4 1 (.slice (some ⟨g3,0,none⟩) ((replicate (d.W*d.H).toNat bl0).length) ((replicate (d.W*d.H).toNat bl0).length)) us blC::rI9 3 U.1 U.2::boxE b1 #[jI d.W,jI d.H,jI d.T,jI d.R] 25::curE g a E G::l)) (fun b U us=>[(7,U.1),(9,jI (b:Int))]) (fun b U us=>b≤B.length∧U.2.length=b∧PlP d B U.2∧us.length=(d.W*d.H).toNat∧UsP U.2 us) (fun b U us=>B.length-b) 0 (_,[]) (replicate (d.W*d.H).toNat bl0) ⟨Nat.zero_le _,A,PlP.nil _ _,length_replicate,UsP.nil _⟩ (bV A) (.refl _) ?_
 intro b U us an
 obtain⟨b8,a8,Z,ag,ab⟩:=an
 refine aG (aG (cN 2 A ?_))
 refine aN A (eV A A A (fun w D=>aa w (D.sub (pR 4 A)))) (aW A A A A A A (fun h5=>?_) (fun h5=>?_))
 refine dL (aR A (eC (jR (aG ?_))))
 refine eI A 7 [0,1,2,3,4,5,6] (List.take 7 _) (List.drop 7 _) [[],[],[],[1,2],[3],[4],[0,5]] [29,30,31,32,33,34,35] (fun i_ b9 v_ X=>match i_ with|0=>v_=.agg #[jI d.W,jI d.H,jI d.T,jI d.R]∧X=[]|1=>v_=kv∧X=[]|2=>v_=jI (b:Int)∧X=[]|3=>v_=elP kv ((b:Int).toNat*1)∧X=[]|4=>v_=jI (B.getD b 0)∧X=[]|5=>v_=jI (btI (B.getD b 0))∧X=[]|6=>(fun v' post=>post=[rI9 3 v' ((tilesK d (btI (B.getD b 0))))]) v_ X|_=>True) (take_append_drop 7 _).symm F F A A ?_ ?_
 refine⟨?_,?_,?_,?_,?_,?_,?_,trivial⟩
 intro vf pf M
 exact eH A (aD [4] A) (aK (aP (cs:=[jI d.W,jI d.H,jI d.T,jI d.R]) A A A A A (aM 2 A 0 A)))
 intro vf pf M
 exact fG A (aD [2] A) (aK (aU A))
 intro vf pf M
 exact fG A (aD [9] A) (aK (aU A))
 intro vf pf M
 have e1:=M 1 V
 have e2:=M 2 V
 exact eH A (aX 30 e1.1 (aX 31 e2.1 (aA _))) (aK (cV 1 A A A A (fun w D=>aa w (D.sub (pR 4 A)))))
 intro vf pf M
 have e3:=M 3 V
 exact eH A (aX 32 e3.1 (aA _)) (aK (lD A A A (fun w D=>aa w (D.sub (pR 4 A)))))
 intro vf pf M
 have e4:=M 4 V
 exact eH A (aX 33 e4.1 (aA _)) (aF A A (fun w D=>aI (pZ (B.getD b 0) w)))
 intro vf pf M
 have e0:=M 0 V
 have e5:=M 5 V
 exact eH A (aX 29 e0.1 (aX 34 e5.1 (aA _))) (aF A A (fun w D=>nG d (btI (B.getD b 0)) w J))
 intro vf pf M
 obtain⟨v6,ac⟩:=dU (vf 6)
 obtain⟨p7,ah⟩:=dU (pf 6)
 have R8:=M 6 V
 rw[ac,ah] at R8
 subst R8
 have q0:=M 0 V
 have q1:=M 1 V
 have q2:=M 2 V
 have q3:=M 3 V
 have q4:=M 4 V
 have q5:=M 5 V
 refine cL (bE [26,9,8,7,6,4,2,1,0] _ (aX 35 ac (aA _)) A) (by simp only[ah,ac,q0.2,q1.2,q2.2,q3.2,q4.2,q5.2,fS]<;>rfl) ?_
 simp only[drop_succ_cons,drop_zero]
 refine bG 1 A (dW ?_)
 have ao:=By d (btI (B.getD b 0)) (d.W*d.H).toNat
 have b3:(tilesK d (btI (B.getD b 0))).length≤(d.W*d.H).toNat:=ao
 refine bG 1 A (aG (cN 1 A (aN A (eV A A A (aB 0 A)) (bG 1 A (dW ?_)))))
 refine aS 2 A (cR (R:=(fun u_ X=>(∃x:Int,u_=jI x∧0≤x∧(1≤(((tilesK d (btI (B.getD b 0))).length:Int):Int)→x<(((tilesK d (btI (B.getD b 0))).length:Int):Int)))∧X=curE g a E G)) 4 A A A A A (fun l' w D=>iT g a E G z ((tilesK d (btI (B.getD b 0))).length:Int) _ _ _ D hb O) ?_)
 intro v9 ba ap
 obtain⟨⟨K,rfl,b4,b5⟩,rfl⟩:=ap
 refine dO (l':=(rowE 3 1 v6 ((tilesK d (btI (B.getD b 0))).length) (mI (tilesK d (btI (B.getD b 0))))::rS9 4 1 (.slice (some ⟨g3,0,none⟩) ((replicate (d.W*d.H).toNat bl0).length) ((replicate (d.W*d.H).toNat bl0).length)) us blC::rI9 3 U.1 U.2::boxE b1 #[jI d.W,jI d.H,jI d.T,jI d.R] 25::curE g a E G::l)) A ?_
 refine bG 1 A (aG (cF 1 A (bS ?_)))
 refine iG (α:=Nat) (β:=Int) [0,1,2,4,6,7,8,9,10,12,13,26] A (fun k h=>(rowE 3 1 v6 ((tilesK d (btI (B.getD b 0))).length) (mI (tilesK d (btI (B.getD b 0))))::rS9 4 1 (.slice (some ⟨g3,0,none⟩) ((replicate (d.W*d.H).toNat bl0).length) ((replicate (d.W*d.H).toNat bl0).length)) us blC::rI9 3 U.1 U.2::boxE b1 #[jI d.W,jI d.H,jI d.T,jI d.R] 25::curE g a E G::l)) (fun k h=>[(11,jI h),(14,jI (k:Int))]) (fun k h=>k≤(tilesK d (btI (B.getD b 0))).length∧((h = -1∧∀q:Nat,q<k→(tilesK d (btI (B.getD b 0))).getD ((K+(q:Int)) % ((tilesK d (btI (B.getD b 0))).length:Int)).toNat 0∈U.2)∨(0≤h∧h∈(tilesK d (btI (B.getD b 0)))∧h∉U.2))) (fun k h=>(tilesK d (btI (B.getD b 0))).length-k) 0 _ ⟨Nat.zero_le _,.inl ⟨A,fun q hq=>absurd hq O⟩⟩ (bV A) (.refl _) ?_
 intro k h ai
 obtain⟨hk,a1⟩:=ai
 refine aG (aG (cN 2 A ?_))
 refine aW A A A A A A (fun aq=>?_) (fun aq=>?_)
 refine aS 2 A (aW A A A A A A (fun ar=>?_) (fun ar=>?_))
 refine bG 1 A (aR A (eC (jR (dW ?_))))
 have bb:=Int.emod_nonneg (K+(k:Int)) (show((tilesK d (btI (B.getD b 0))).length:Int)≠0 by omega)
 have b6:=Int.emod_lt_of_pos (K+(k:Int)) (show 0<((tilesK d (btI (B.getD b 0))).length:Int) by omega)
 have Y:=a1.resolve_right (fun h9=>O)
 refine aS 1 A (aS 2 A (aN A (eY A A A) (aS 1 A (aN A (fT A A A AE) (aN A (cV 1 A A A A (aB 0 A)) (aN A (aL (u:=jI ((tilesK d (btI (B.getD b 0))).getD (((K+(k:Int)) % ((tilesK d (btI (B.getD b 0))).length:Int)).toNat) 0)) A A A (aB 0 A) (cJ (show _<(tilesK d (btI (B.getD b 0))).length by omega))) (bG 1 A (dW ?_))))))))
 have ad:((tilesK d (btI (B.getD b 0))).getD ((K+(k:Int)) % ((tilesK d (btI (B.getD b 0))).length:Int)).toNat 0)∈(tilesK d (btI (B.getD b 0))):=eN O
 have a0:=(iO J).1 ad
 have a9:=ab ((tilesK d (btI (B.getD b 0))).getD ((K+(k:Int)) % ((tilesK d (btI (B.getD b 0))).length:Int)).toNat 0).toNat O
 refine aS 2 A (aN A (cV 1 A A A A (aB 1 A)) ?_)
 refine aN A (aL (u:=.bool ((us.getD (((tilesK d (btI (B.getD b 0))).getD (((K+(k:Int)) % ((tilesK d (btI (B.getD b 0))).length:Int)).toNat) 0).toNat) bl0).b)) A A A (aB 1 A) (dF blC (fun r=>.bool r.b) (fun _=>A) us bl0 (show((tilesK d (btI (B.getD b 0))).getD (((K+(k:Int)) % ((tilesK d (btI (B.getD b 0))).length:Int)).toNat) 0).toNat<_ by omega))) (bD (fun au=>?_) (fun au=>?_))
 refine bG 1 A (jQ A (eB (cN 1 A (aN A (eY A A A) (eS 1 A ?_)))))
 exact bO (k+1) _ ⟨O,by first|exact .inr ⟨a0.1.1,ad,fun h9=>by have h8:=a9.2 (by rw[Int.toNat_of_nonneg a0.1.1];exact h9);simp_all⟩|(refine .inl ⟨Y.1,fun q hq=>?_⟩;by_cases e:q=k;(subst e;have h8:=a9.1 I;rwa [Int.toNat_of_nonneg a0.1.1] at h8);exact Y.2 q O)⟩ O (bV A) (.refl _)
 refine bG 1 A (aR A (bP (eS 2 A (eB (cN 1 A (aN A (eY A A A) ?_))))))
 refine eS 1 A ?_
 exact bO (k+1) _ ⟨O,by first|exact .inr ⟨a0.1.1,ad,fun h9=>by have h8:=a9.2 (by rw[Int.toNat_of_nonneg a0.1.1];exact h9);simp_all⟩|(refine .inl ⟨Y.1,fun q hq=>?_⟩;by_cases e:q=k;(subst e;have h8:=a9.1 I;rwa [Int.toNat_of_nonneg a0.1.1] at h8);exact Y.2 q O)⟩ O (bV A) (.refl _)
 refine bG 1 A (aV A ?_)
 refine bW (fM ?_)
 refine aO (bB (aG (aG (cN 1 A ?_))))
 refine aW A A A A A A (fun aw=>?_) (fun aw=>?_)
 refine dL (aR A (dW ?_))
 refine cH A (bU (s:=1) A z8 A) ?_
 intro aj
 refine bG 1 A ?_
 refine cW (cK ?_)
 refine dE (rR ?_)
 refine dE (cK ?_)
 have a2:=a1.resolve_right (fun h9=>O)
 refine gC (fun w D=>(⟨oL (aB 0 A w D),(aB 0 A w D).one⟩:lenN _=_∧_)) (fun a3=>?_)
 refine bN 6 [4,3,2,1,0,5] A A V ?_
 refine dN 2 A ?_
 exact fU (rs:=[.tmp 6]) (vs:=[.slice (some ⟨aj,0,none⟩) 0 0]) A ⟨A,trivial⟩ A (fun w D=>⟨_,bigE [curE g a E G,rowE 3 1 (.slice (some ⟨aj,0,none⟩) 0 0) 0 ([])],A,⟨[],A,a3,.inr ⟨Z.short J O (by rw[a8];exact zL (s:=K) (fun q hq=>a2.2 q O)),A⟩⟩,D.sub (.cons_cons _ (pR 4 A))⟩)
 refine dL (aV A (eC (dW ?_)))
 have a4:=a1.resolve_left (fun h9=>O)
 obtain⟨ae,a5,af⟩:=a4
 have ak:=(iO J).1 a5
 have a6:=Z.app J O (by rw[a8];exact a5) af
 have a7:=ab.app (y:={ us.getD h.toNat bl0 with b:=true }) ae rfl
 refine aS 2 A (aN A (cV 1 A A A A (aB 1 A)) ?_)
 refine dS (i:=1) (n':=(us.set (h.toNat) { us.getD (h.toNat) bl0 with b:=true }).length) A A A A A A A A AA List.length_set.symm (eF blC (fun r=>.bool r.b) (fun _=>A) _ ({ us.getD (h.toNat) bl0 with b:=true }) A) A (dL (cN 2 A ?_))
 refine cH A (aH (z:=jI 0) (s:=1) (cs:=(mI [h])) A z8 A V A F A) ?_
 intro bc
 refine bT (i:=3) (z:=jI 0) (bytes:=8) A A A A z8 F A A A A (aB 0 A) (bI _) AD (bK U.2 ([h])) (cB U.2 ([h])) (fun _=>A) ?_
 intro ax
 refine eS 1 A (eB (cN 1 A (aN A (eY A A A) (eS 1 A ?_))))
 exact aQ (b+1) (ax,U.2++([h])) (us.set (h.toNat) { us.getD (h.toNat) bl0 with b:=true }) ⟨O,by show List.length (_++[_])=b+1;rw[length_append,length_singleton];omega,a6,by rw[length_set];exact ag,a7⟩ O (bV rfl) (pR 2 rfl)
 refine bG 4 A (aV A ?_)
 refine bW (fM ?_)
 refine aO (bB (aG (aG (cN 1 A ?_))))
 refine aW A A A A A A (fun ay=>?_) (fun ay=>?_)
 refine dL (aR A (dW ?_))
 refine cH A (bU (s:=1) A z8 A) ?_
 intro al
 refine bG 1 A ?_
 refine cW (cK ?_)
 refine dE (rR ?_)
 refine dE (cK ?_)
 have a2:=a1.resolve_right (fun h9=>O)
 refine gC (fun w D=>(⟨oL (aB 0 A w D),(aB 0 A w D).one⟩:lenN _=_∧_)) (fun a3=>?_)
 refine bN 6 [4,3,2,1,0,5] A A V ?_
 refine dN 2 A ?_
 exact fU (rs:=[.tmp 6]) (vs:=[.slice (some ⟨al,0,none⟩) 0 0]) A ⟨A,trivial⟩ A (fun w D=>⟨_,bigE [curE g a E G,rowE 3 1 (.slice (some ⟨al,0,none⟩) 0 0) 0 ([])],A,⟨[],A,a3,.inr ⟨Z.short J O (by rw[a8];exact zL (s:=K) (fun q hq=>a2.2 q O)),A⟩⟩,D.sub (.cons_cons _ (pR 4 A))⟩)
 refine dL (aV A (eC (dW ?_)))
 have a4:=a1.resolve_left (fun h9=>O)
 obtain⟨ae,a5,af⟩:=a4
 have ak:=(iO J).1 a5
 have a6:=Z.app J O (by rw[a8];exact a5) af
 have a7:=ab.app (y:={ us.getD h.toNat bl0 with b:=true }) ae rfl
 refine aS 2 A (aN A (cV 1 A A A A (aB 1 A)) ?_)
 refine dS (i:=1) (n':=(us.set (h.toNat) { us.getD (h.toNat) bl0 with b:=true }).length) A A A A A A A A AA List.length_set.symm (eF blC (fun r=>.bool r.b) (fun _=>A) _ ({ us.getD (h.toNat) bl0 with b:=true }) A) A (dL (cN 2 A ?_))
 refine cH A (aH (z:=jI 0) (s:=1) (cs:=(mI [h])) A z8 A V A F A) ?_
 intro bd
 refine bT (i:=3) (z:=jI 0) (bytes:=8) A A A A z8 F A A A A (aB 0 A) (bI _) AD (bK U.2 ([h])) (cB U.2 ([h])) (fun _=>A) ?_
 intro az
 refine eS 1 A (eB (cN 1 A (aN A (eY A A A) (eS 1 A ?_))))
 exact aQ (b+1) (az,U.2++([h])) (us.set (h.toNat) { us.getD (h.toNat) bl0 with b:=true }) ⟨O,by show List.length (_++[_])=b+1;rw[length_append,length_singleton];omega,a6,by rw[length_set];exact ag,a7⟩ O (bV rfl) (pR 2 rfl)
 refine dL (aV A ?_)
 refine bW (fM ?_)
 refine aO (bB (cF 2 A ?_))
 refine cW (gC (fun w D=>(⟨oL (aB 1 A w D),(aB 1 A w D).one⟩:lenN _=_∧_)) (fun a3=>?_))
 refine bN 4 [2,0,1,3] A A V ?_
 refine dN 2 A ?_
 exact fU (rs:=[.tmp 6]) (vs:=[U.1]) A ⟨A,trivial⟩ A (fun w D=>⟨_,bigE [curE g a E G,rI9 3 U.1 U.2],A,⟨_,A,a3,.inl ⟨Z.fits J O,O,Z⟩⟩,D.sub (.cons_cons _ (pR 2 A))⟩)
structure Pn where
  b:Int
  p:Int
abbrev pn0:Pn:=⟨0,0⟩
def pnC (k:Pn):List Value:=[.int .i64 k.b,.int .i64 k.p]
structure Cn where
  nd:Int
  sb:Int
  sp:Int
  kv:Value
  ks:List Pn
abbrev cn0:Cn:=⟨0,0,0,.slice none 0 0,[]⟩
def cnC (c:Cn):List Value:=[.int .i64 c.nd,.int .i64 c.sb,.int .i64 c.sp,c.kv]
def KsR (w:World) (cs:List Cn):Prop:=∀c∈cs,RdsW w c.kv 2 c.ks.length (c.ks.flatMap pnC)
structure RdsCn (w:World) (v:Value) (cs:List Cn):Prop where
  row:RdsW w v 4 cs.length (cs.flatMap cnC)
  ks:KsR w cs
theorem RdsCn.below {w e:World}{v:Value}{cs:List Cn}(h:RdsCn w v cs) (B:Below w.heap.size w e):RdsCn e v cs:=⟨h.row.below B,fun c D=>(h.ks c D).below B⟩
theorem RdsCn.at {w:World}{v:Value}{cs:List Cn}(h:RdsCn w v cs) {k:Nat}(e:k<cs.length):RdsW w (cs.getD k cn0).kv 2 (cs.getD k cn0).ks.length ((cs.getD k cn0).ks.flatMap pnC):=h.ks _ (eN e)
theorem Dy {n:Ln}(hok:LnOk n) {b:Bk}(h:BlP n b):(pinN n b).length≤5:=by
  unfold pinN
  rw[if_neg (not_not_intro h.1)]
  split
  · exact Nat.zero_le _
  · split
    · exact Nat.le_trans (Nat.le_refl 1) (by decide)
    · split
      · rename_i h0 h1 h2
        have:=(hok.sq b.it.toNat (by have:=h.rng.2.2.1 h2;omega)).1.len
        omega
      · rename_i h0 h1 h2
        have:b.kd=3:=by rcases h.1 with⟨p, -⟩|⟨p, -⟩|⟨p, -⟩|⟨p, -⟩<;>first|exact p|exact absurd p (by assumption)
        exact(h.2.1 this).2.2
theorem yD {n:Ln}{b:Bk}(h:BlP n b):(outNd n b).length≤2:=by
  unfold outNd
  rw[if_neg (not_not_intro h.1)]
  split
  · exact Nat.le_trans (Nat.le_refl 1) (by decide)
  · split
    · exact Nat.zero_le _
    · split
      · exact Nat.le_trans (Nat.le_refl 1) (by decide)
      · rw[qK];exact h.rng.2.2.2.1
def PnIn (B:Nat) (ks:List Pn):Prop:=∀k∈ks,(0≤k.b∧k.b<(B:Int))∧0≤k.p∧k.p≤4
def CnIn (B:Nat) (cs:List Cn):Prop:=∀c∈cs,((0≤c.sb∧c.sb<(B:Int))∧0≤c.sp∧c.sp≤4)∧(1≤c.ks.length∧c.ks.length≤5*B)∧PnIn B c.ks
theorem PnIn.nil (B:Nat):PnIn B []:=fun k e=>by cases e
theorem PnIn.app {B:Nat}{D:List Pn}(h:PnIn B D) {b p:Int}(E:(0≤b∧b<(B:Int))∧0≤p∧p≤4):PnIn B (D++[Pn.mk b p]):=fun x e=>by
  rcases List.mem_append.1 e with e|e
  · exact h x e
  · rw[mem_singleton] at e;subst e;exact E
theorem CnIn.nil (B:Nat):CnIn B []:=fun k e=>by cases e
theorem CnIn.app {B:Nat}{cs:List Cn}(h:CnIn B cs) {J E G:Int}{K:Value}{D:List Pn}(M:(0≤E∧E<(B:Int))∧0≤G∧G≤4) (U:1≤D.length∧D.length≤5*B) (X:PnIn B D):CnIn B (cs++[Cn.mk J E G K D]):=fun x e=>by
  rcases List.mem_append.1 e with e|e
  · exact h x e
  · rw[mem_singleton] at e;subst e;exact⟨M,U,X⟩
def CoP (cs:List Cn):Prop:=cs.length≤100∧∀k,k<cs.length→(cs.getD k cn0).ks.length≤120
def CnM (M:Nat) (cs:List Cn):Prop:=∀c∈cs,c.ks.length≤M
theorem CnM.nil (M:Nat):CnM M []:=fun k e=>by cases e
theorem CnM.app {M:Nat}{cs:List Cn}(h:CnM M cs) {c:Cn}(B:c.ks.length≤M):CnM M (cs++[c]):=fun x e=>by
  rcases List.mem_append.1 e with e|e
  · exact h x e
  · rw[mem_singleton] at e;subst e;exact B
def kW (x:Int):Nat:=if x=0∨x=1 then 1 else 5
def kSm (bs:List Bk):Nat→Nat
  | 0=>0
  | i+1=>kSm bs i+kW (bs.getD i bk0).kd
theorem Hz (B:List Bk) {i:Nat}:∀ {j:Nat},i≤j→kSm B i≤kSm B j
  | 0,h=>by rw[show i=0 by omega];exact Nat.le_refl _
  | j+1,h=>by
    by_cases e:i=j+1
    · rw[e];exact Nat.le_refl _
    · exact Nat.le_trans (Hz B O) (Nat.le_add_right _ _)
theorem Kb {n:Ln}(hok:LnOk n) {b:Bk}(h:BlP n b):(pinN n b).length≤kW b.kd:=by
  have h5:=Dy hok h
  unfold kW
  split
  · rename_i hk
    unfold pinN
    rw[if_neg (not_not_intro h.1)]
    rcases hk with hk|hk
    · rw[if_pos hk];exact Nat.zero_le _
    · rw[if_neg (by omega),if_pos hk];exact Nat.le_refl 1
  · exact h5
theorem Iw {x:Int}(h:btI x=0):kW x=1:=by
  unfold btI at h;unfold kW
  split at h
  · rename_i h1;rw[if_pos h1]
  · split at h
    · omega
    · split at h<;>omega
theorem kW_le (x:Int):kW x≤5:=by unfold kW;split<;>omega
theorem Hy {d:Dev}{bs:List Bk}{zs:List Int}(h:PlP d (bs.map Bk.kd) zs) (hl:zs.length=(bs.map Bk.kd).length):∀i,i≤bs.length→kSm bs i≤i+4*((zs.take i).filter (fun x=>tileKindI d x != 0)).length
  | 0,_=>by simp[kSm]
  | i+1,hi=>by
    rw[length_map] at hl
    have ih:=Hy h (by rw[length_map];exact hl) i (by omega)
    have hk:=h.kd i (by omega)
    have hm:(bs.map Bk.kd).getD i 0=(bs.getD i bk0).kd:=by
      rw[getD_eq_getElem?_getD,List.getElem?_map,getD_eq_getElem?_getD,List.getElem?_eq_getElem (show i<bs.length by omega)];rfl
    rw[hm] at hk
    rw[hY 0 (show i<zs.length by omega),List.filter_append,length_append]
    show kSm bs i+kW (bs.getD i bk0).kd≤_
    by_cases e:tileKindI d (zs.getD i 0)=0
    · rw [e] at hk
      have:=Iw hk.symm
      omega
    · have h5 := kW_le (bs.getD i bk0).kd
      rw[show([zs.getD i 0].filter (fun x=>tileKindI d x != 0))=[zs.getD i 0] by rw[List.filter_cons_of_pos (by simpa using e)];rfl]
      rw[length_singleton];omega
theorem in16 {d:Dev}(B:devB d=true) {x:Int}(D:0≤x∧x<d.W*d.H) (h:tileKindI d x≠0):x∈(List.range 16).map (fun k:Nat=>d.W*((k:Int) / 4+1)+(k:Int) % 4+1):=by
  obtain⟨⟨a,b⟩,⟨c,e⟩, -⟩:=(dI d).1 B
  unfold tileKindI at h
  rw[if_pos ((fC d x).2 ⟨B,O,O⟩)] at h
  unfold kindI at h
  have G:¬((x % d.W=0∨x % d.W=d.W-1)∨(x / d.W=0∨x / d.W=d.H-1)):=fun E=>h (if_pos E)
  have J:=Int.emod_nonneg x (show d.W≠0 by omega)
  have K:=Int.emod_lt_of_pos x (show 0<d.W by omega)
  have M:0≤x / d.W:=Int.ediv_nonneg D.1 O
  have U:x / d.W<d.H:=Int.ediv_lt_of_lt_mul O (by rw[Int.mul_comm];exact D.2)
  have X:=Int.mul_ediv_add_emod x d.W
  generalize x % d.W=p at *
  generalize x / d.W=q at *
  refine List.mem_map.2 ⟨((q-1)*4+(p-1)).toNat,List.mem_range.2 O,?_⟩
  rw[show((((q-1)*4+(p-1)).toNat:Nat):Int) / 4+1=q by omega,show((((q-1)*4+(p-1)).toNat:Nat):Int) % 4=p-1 by omega]
  omega
theorem PlP.few {d:Dev}(hd:devB d=true) {ks zs:List Int}(h:PlP d ks zs):zs.length≤36∧(zs.filter (fun x=>tileKindI d x != 0)).length≤16:=by
  have har:=mW hd
  refine⟨?_,?_⟩
  · refine Nat.le_trans (mH zs ((List.range 36).map (fun k : Nat => (k : Int))) h.nd fun x hx => ?_) (by simp)
    have:=h.mem_rg hx
    exact List.mem_map.2 ⟨x.toNat,List.mem_range.2 (by omega),by omega⟩
  · refine Nat.le_trans (mH _ _ (h.nd.filter _) fun x hx => ?_) (Nat.le_of_eq (show ((List.range 16).map (fun k : Nat => d.W * ((k : Int) / 4 + 1) + (k : Int) % 4 + 1)).length = 16 by rw [length_map, List.length_range]))
    rw[List.mem_filter] at hx
    exact in16 hd (h.mem_rg hx.1) (by simpa using hx.2)
theorem coP_pl {d:Dev}(D:devB d=true) {e:List Bk}{zs:List Int}(h:PlP d (e.map Bk.kd) zs) (B:zs.length=(e.map Bk.kd).length) {cs:List Cn}(K:cs.length≤2*e.length) (E:CnM (kSm e e.length) cs):CoP cs:=by
  obtain⟨M,U⟩:=h.few D
  have G:=Hy h B e.length (Nat.le_refl _)
  rw[length_map] at B
  rw[←B,take_length,B] at G
  refine⟨O,fun k J=>?_⟩
  have:=E _ (dJ (d:=cn0) J)
  omega
theorem KsR.nil (w:World):KsR w []:=fun c e=>by cases e
theorem KsR.app {w:World}{cs:List Cn}(h:KsR w cs) {c:Cn}(B:RdsW w c.kv 2 c.ks.length (c.ks.flatMap pnC)):KsR w (cs++[c]):=fun x e=>by
  rcases List.mem_append.1 e with e|e
  · exact h x e
  · rw[mem_singleton] at e;subst e;exact B
theorem Fr {a b c:Int}(e:b≤a) (h:a≤c) (w:World):Calls Tryz.prog 58 #[.int .i64 a,.int .i64 b,.int .i64 c] w (Ans w (.bool true)):=by
  rw[←gL e h];exact hH (cX _ _ _ w)
structure Tab where
  N:Int
  B:Int
def pn (n:Int):Nat:=2 ^ n.toNat
def qn (n:Int):Int:=2 ^ (2 ^ n.toNat)
theorem Io {n:Int}(h:0≤n∧n≤4):n=0∨n=1∨n=2∨n=3∨n=4:=O
theorem Cl {n:Int}(h:0≤n∧n≤4):1≤pn n∧pn n≤16:=by
  rcases Io h with rfl|rfl|rfl|rfl|rfl<;>decide
theorem Ck {n:Int}(h:0≤n∧n≤4):2≤qn n∧qn n≤65536:=by
  rcases Io h with rfl|rfl|rfl|rfl|rfl<;>decide
theorem wr1 {n:Int}(h:0≤n∧n≤4):IntKind.i64.wrap (1*2 ^ n.toNat)=(pn n:Int):=by
  rcases Io h with rfl|rfl|rfl|rfl|rfl<;>exact IntWalk.i64_in _ V
theorem wru {n:Int}(h:0≤n∧n≤4):IntKind.u64.wrap (1*2 ^ n.toNat)=(pn n:Int):=by
  rcases Io h with rfl|rfl|rfl|rfl|rfl<;>exact IntWalk.u64_in _ V
theorem wr2 {n:Int}(h:0≤n∧n≤4):IntKind.i64.wrap (1*2 ^ ((pn n:Int)).toNat)=qn n:=by
  rcases Io h with rfl|rfl|rfl|rfl|rfl<;>exact IntWalk.i64_in _ V
def TabOk (t:Tab):Prop:=(0≤t.N∧t.N≤4)∧0≤t.B∧t.B≤qn t.N-1
theorem andB {x:Int}(k:Nat) (h:0≤x∧x≤65535):bits .and .i64 (x / 2 ^ k) 1=x / 2 ^ k % 2:=by
  have e:(0:Int)≤x / 2 ^ k:=Int.ediv_nonneg h.1 (Int.le_of_lt (Int.pow_pos V))
  have B:x / 2 ^ k≤x:=Int.ediv_le_self _ h.1
  exact Bit.and_one _ e O
open Go.RowKit
theorem sL (n:Int) (w:World) (e:0≤n∧n≤4) :
   Calls Tryz.prog 146 #[.int .i64 n] w (Ans w (.int .i64 (qn n-1))):=by
 have h:=Cl e
 have B:=Ck e
 refine aY (N:=7) (args:=[jI n]) Tryz.func146 A A (aG (bP (aS 1 A (cP (bB (aG (bP (aS 1 A (aN A (oJ (k:=.u64) (kk:=.i64) (r:=(pn n:Int)) A A A A O (wru e)) (aN A (oJ (k:=.i64) (kk:=.u64) (r:=qn n) A A A A O (wr2 e)) (aN A (nK A A A) (aS 1 A (go ?_)))))))))))))
 exact aT A A A
theorem sU (t:Tab) (w:World) (D:TabOk t) :
   Calls Tryz.prog 145 #[.agg #[.int .i64 t.N,.int .i64 t.B]] w (Ans w (.bool true)):=by
 obtain⟨h,E,G⟩:=D
 have U:=Cl h
 have X:=Ck h
 refine aY (N:=19) (args:=[.agg #[jI t.N,jI t.B]]) Tryz.func145 A A (dW ?_)
 refine cU A (cE A A) fun e=>go ?_
 have J:(decide (0≤t.B))=true:=decide_eq_true O
 have K:(decide (t.B≤qn t.N-1))=true:=decide_eq_true O
 refine bL 16 [[],[0],[1],[2],[3],[3,4],[3,5],[3,6],[7],[8],[8,9],[8],[8,11],[8,12],[8,10,13],[8,14]] [3,4,5,6,7,8,9,10,11,12,13,14,15,16,17,18] [.pointer (some ⟨e,0+0,none⟩),jI t.N,.bool true,.bool true,.pointer (some ⟨e,0+1,none⟩),jI t.B,.bool true,.bool true,.bool true,.pointer (some ⟨e,0+1,none⟩),jI t.B,.pointer (some ⟨e,0+0,none⟩),jI t.N,jI (qn t.N-1),.bool true,.bool true] F A ?_ ?_
 exact⟨aJ,aJ,.inl ⟨A,aF A A (fun w M=>aI (Fr O O w))⟩,aJ,aJ,aJ,aJ,aJ,aJ,aJ,aJ,aJ,aJ,.inl ⟨A,aF A A (fun w M=>aI (sL _ w h))⟩,aJ,aJ,trivial⟩
 simp only[drop_succ_cons,drop_zero]
 refine go ?_
 exact aT A A A
open Go.RowKit
open Go.RowKit
theorem zD (n x:Int) (w:World) (h:0≤n∧n≤4) (J:0≤x∧x≤qn n-1) :
   Calls Tryz.prog 127 #[.agg #[.int .i64 n,.int .i64 x]] w (Ret w (fun D post=>post=[]∧∃t:Tab,TabOk t∧t.N=n∧D=.agg #[.int .i64 t.N,.int .i64 t.B])):=by
 have K:=Ck h
 refine aY (N:=16) (args:=[.agg #[jI n,jI x]]) Tryz.func127 A A (dW ?_)
 refine cU A (cE A A) fun e=>?_
 refine cU A (bY (z:=.agg #[jI 0,jI 0]) A A) fun E=>go ?_
 refine cM A (aF A A (fun w G=>aI (sU ⟨n,x⟩ w ⟨(by show 0≤n∧n≤4;omega),(by show 0≤x∧x≤qn (n)-1;omega)⟩))) (go ?_)
 refine bL 9 [[],[0],[],[2],[3],[],[5],[4,6],[1,7]] [7,8,9,10,11,12,13,14,15] [.pointer (some ⟨e,0+0,none⟩),jI n,.pointer (some ⟨e,0+0,none⟩),jI n,jI (qn n-1),.pointer (some ⟨e,0+1,none⟩),jI x,jI ((qn n-1)-x),.agg #[jI n,jI ((qn n-1)-x)]] F A ?_ ?_
 exact⟨aJ,aJ,aJ,aJ,.inl ⟨A,aF A A (fun w G=>aI (sL _ w O))⟩,aJ,aJ,aJ,fL A (dG (cs:=#[jI n,jI ((qn n-1)-x)]) A A A) A,trivial⟩
 simp only[drop_succ_cons,drop_zero]
 refine cA (cs':=#[jI n,jI ((qn n-1)-x)]) (i:=0) (off:=0) (us:=[jI n,jI ((qn n-1)-x)]) A A A A A A A (aC A (aC A bH)) A A A (go ?_)
 exact eQ (rs:=[.cell 2 153]) (vs:=[.agg #[jI n,jI ((qn n-1)-x)]]) (post:=[]) A ⟨⟨E,0,[jI n,jI ((qn n-1)-x)],A,A,F,F,aM 0 A 0 A⟩,trivial⟩ A (eA [] A) ⟨A,⟨n,(qn n-1)-x⟩,⟨h,by constructor<;>dsimp only<;>omega⟩,A,A⟩
def opn (n : Nt) (cut : List Int) : Nat → List Bl → Bool
  | 0,_=>true
  | k + 1, bs => if (bs.getD (k + 1) bl0).b = false ∨ hasB cut ((k + 1 : Nat) : Int) = true then opn n cut k bs
    else if ((k+1:Nat):Int)<n.fst then false
    else opn n cut k ((bs.set ((n.gs.getD (((k+1:Nat):Int)-n.fst).toNat an0).a / 2).toNat ⟨true⟩).set ((n.gs.getD (((k+1:Nat):Int)-n.fst).toNat an0).b / 2).toNat ⟨true⟩)
theorem Ab {n:Nt}{e:List Int}{k:Nat}{B:List Bl}(D:0<k) (h:(B.getD k bl0).b=false∨hasB e (k:Int)=true):opn n e k B=opn n e (k-1) B:=by
  obtain⟨j,rfl⟩:∃j,k=j+1:=⟨k-1,O⟩
  rw[opn,if_pos h];rfl
theorem opn_no {n:Nt}{e:List Int}{k:Nat}{h:List Bl}(G:0<k) (B:(h.getD k bl0).b=true) (D:hasB e (k:Int)=false) (E:(k:Int)<n.fst):opn n e k h=false:=by
  obtain⟨j,rfl⟩:∃j,k=j+1:=⟨k-1,O⟩
  rw[opn,if_neg (by rw[B,D];decide),if_pos E]
theorem Hq {n:Nt}{e:List Int}{k:Nat}{h:List Bl}(E:0<k) (B:(h.getD k bl0).b=true) (D:hasB e (k:Int)=false) (G:n.fst≤(k:Int)) :
    opn n e k h=opn n e (k-1) ((h.set ((n.gs.getD ((k:Int)-n.fst).toNat an0).a / 2).toNat ⟨true⟩).set ((n.gs.getD ((k:Int)-n.fst).toNat an0).b / 2).toNat ⟨true⟩):=by
  obtain⟨j,rfl⟩:∃j,k=j+1:=⟨k-1,O⟩
  rw[opn,if_neg (by rw[B,D];decide),if_neg O];rfl
abbrev opn0 (n:Nt) (node:Int):List Bl:=(replicate n.cnt.toNat bl0).set node.toNat ⟨true⟩
def ElP (n:Nt) (node:Int) (cut:List Int) (i:Nat):Prop:=hasB (coneS n node) (cut.getD i 0)=true∧(0<i→cut.getD (i-1) 0<cut.getD i 0)
structure CutP (n:Nt) (node:Int) (cut:List Int):Prop where
  len:cut.length≤4
  el:∀i,i<cut.length→ElP n node cut i
  op:opn n cut node.toNat (opn0 n node)=true
theorem Ip {n:Nt}{node:Int}{cut:List Int}{i:Nat}(h:hasB (coneS n node) (cut.getD i 0)=false∨(0<i∧cut.getD i 0≤cut.getD ((i:Int)-1).toNat 0)):¬ElP n node cut i:=fun he=>by
  rcases h with h|⟨h0,h⟩
  · rw[he.1] at h;cases h
  · have := he.2 h0
    rw[show((i:Int)-1).toNat=i-1 by omega] at h
    omega
theorem Eq {n:Nt}{B:Int}{e:List Int}{i:Nat}(h:hasB (coneS n B) (e.getD i 0)=true) (D:(i:Int)≤0∨e.getD ((i:Int)-1).toNat 0<e.getD i 0):ElP n B e i:=⟨h,fun E=>by
  rcases D with D|D
  · omega
  · rwa [show((i:Int)-1).toNat=i-1 by omega] at D⟩
theorem CutP.rng {n:Nt}(D:NtOk n) {e:Int}(E:0≤e) {B:List Int}(h:CutP n e B) {i:Nat}(G:i<B.length):0≤B.getD i 0∧B.getD i 0≤e:=wZ D E _ (rX.1 (h.el i G).1)
structure MapP (n:Nt) (rs:List CRow):Prop where
  len:rs.length=n.gs.length
  cut:∀i,i<rs.length→CutP n (n.fst+(i:Int)) (rs.getD i crow0).xs∧hasB (rs.getD i crow0).xs (n.fst+(i:Int))=false
theorem MapP.below {n:Nt}(B:NtOk n) {rs:List CRow}(h:MapP n rs) {i:Nat}(G:i<rs.length) {k:Nat}(D:k<(rs.getD i crow0).xs.length):0≤(rs.getD i crow0).xs.getD k 0∧(rs.getD i crow0).xs.getD k 0<n.fst+(i:Int):=by
  have E:=h.cut i G
  have K:0≤n.fst:=by have:=B.i0;unfold Nt.fst;omega
  have M:=E.1.rng B O D
  have J:(rs.getD i crow0).xs.getD k 0≠n.fst+(i:Int):=fun e=>by
    have:=Ax D e
    rw[E.2] at this;cases this
  omega
theorem Ey {v:List Int}(h:B01 v) {k:Nat}{x:Int}(D:x=0∨x=1):B01 (v.set k x):=fun j B=>by
  rw[length_set] at B
  by_cases e:k=j
  · subst e;rw[fQ B];exact D
  · rw[getD_eq_getElem?_getD,List.getElem?_set_ne e,←getD_eq_getElem?_getD];exact h j B
theorem Ld (n:Nat):B01 (replicate n 0):=fun k e=>by rw[length_replicate] at e;rw[oU e];exact .inl rfl
theorem Lh {k:Nat}(h:k≤16):(0:Int)<2 ^ k∧(2:Int) ^ k≤65536:=by
  have B:(2:Nat) ^ k≤2 ^ 16:=Nat.pow_le_pow_right V h
  have e:((2 ^ k:Nat):Int)=(2:Int) ^ k:=by push_cast;rfl
  have D:0<(2:Nat) ^ k:=Nat.pow_pos V
  have E:(2:Nat) ^ 16=65536:=V
  rw[←e];omega
theorem Ha {b:Int}{k:Nat}(h:b=0∨b=1) (B:k≤16):IntKind.i64.wrap (b*2 ^ ((k:Int)).toNat)=b*2 ^ k:=by
  have D:=Lh B
  rw[Int.toNat_natCast]
  exact IntWalk.i64_in _ (by rcases h with e|e<;>rw[e]<;>omega)
theorem xD {b x:Int}{i:Nat}(B:0≤b∧b<2 ^ i) (h:x=0∨x=1):0≤b+x*2 ^ i∧b+x*2 ^ i<2 ^ (i+1):=by
  have D:(0:Int)<2 ^ i:=Int.pow_pos V
  rw[Int.pow_succ]
  rcases h with e|e<;>rw[e]<;>omega
theorem Iz {m b:Int}(h:0≤m∧m≤4) {i:Nat}(B:i=pn m) (e:0≤b∧b<2 ^ i):TabOk (Tab.mk m b):=by
  subst B
  refine⟨h,e.1,?_⟩
  show b≤2 ^ (2 ^ m.toNat)-1
  have:=e.2
  unfold pn at this
  omega
theorem pS (n:Nt) (B:Int) (D:List Int) (K:Value) (w:World) (hr:RdsNt w n) (U:NtOk n) (a0:RdsW w K 1 D.length (D.map (Value.int .i64))) (ab:0≤B∧B<n.cnt) (ah:D.length≤100000) :
   Calls Tryz.prog 143 #[.agg #[.int .i64 n.ins,n.sv,n.av,n.ov],.int .i64 B,K] w (Ans w (.bool (pBe (CutP n B D)))):=by
 have ak:=U.i0
 have al:=U.i1
 have am:=U.s1
 have ao:=U.a1
 have ap:=U.o1
 have ai:n.cnt=1+n.ins+n.ss.length+n.gs.length:=rfl
 have aj:n.fst=1+n.ins+n.ss.length:=rfl
 refine aY (N:=105) (args:=[.agg #[jI n.ins,n.sv,n.av,n.ov],jI B,K]) Tryz.func143 A A (dW ?_)
 refine cU A (cE A A) ?_
 intro b1
 refine bG 1 A (kE (aN A (aP (cs:=[jI n.ins,n.sv,n.av,n.ov]) A A A A A (aM 0 A 0 A)) ?_))
 refine cM A (aF A A (fun w J=>aI (gG n w (hr.below J.bel) U))) (aS 3 A ?_)
 refine aW A A A A A A (fun h2=>absurd h2 O) (fun h2=>?_)
 refine aS 3 A (aN A (aP (cs:=[jI n.ins,n.sv,n.av,n.ov]) A A A A A (aM 0 A 0 A)) ?_)
 refine cM A (aF A A (fun w J=>aI (dK n w (hr.below J.bel) U))) (eK A A A A A A (fun h3=>absurd h3 O) (fun h3=>?_))
 refine aS 3 A (aN A (eV A A A (aE a0)) ?_)
 refine fJ A A A A A A (fun h4=>?_) (fun h4=>?_)
 refine bG 1 A (aR A (cF 1 A ?_))
 refine cW (cK ?_)
 exact aT A A (congrArg Value.bool (pL (p:=CutP n B D) (fun h=>by have h9:=h.len;omega)).symm)
 refine bG 1 A (aV A (eC (dW (aN A (aP (cs:=[jI n.ins,n.sv,n.av,n.ov]) A A A A A (aM 0 A 0 A)) (aS 1 A ?_)))))
 refine fF A A A (aF A A (fun w J=>Bq n B w (hr.below J.bel) U ab)) ?_
 intro v5 p6 R7
 subst R7
 have aq:=xA n B O
 refine bG 1 A (aG (cF 1 A (bS ?_)))
 refine Aw (α:=Nat) (fun j=>[rowE 3 1 v5 ((coneS n B).length) (mI (coneS n B)),nB9 b1 n]) (fun j=>[(0,.agg #[jI n.ins,n.sv,n.av,n.ov]),(1,jI B),(2,K),(3,pI b1),(6,.bool false),(7,v5),(8,jI (j:Int)),(29,.bool false)]) (fun j=>j≤D.length∧∀i,i<j→ElP n B D i) (fun j=>D.length-j) 0 ⟨Nat.zero_le _,fun i hi=>absurd hi O⟩ (bV A) (cZ A) ?_
 intro j ac
 obtain⟨hj,a2⟩:=ac
 refine aG (aG (cN 2 A (aN A (eV A A A (aE a0)) ?_)))
 refine aW A A A A A A (fun h9=>?_) (fun h9=>?_)
 refine dL (aR A (eC (jR (aG ?_))))
 rcases eq_false_or_eq_true (hasB (coneS n B) (D.getD j 0)) with M|M
 rcases eq_false_or_eq_true (decide (0<(j:Int))) with X|X
 have a3:0<(j:Int):=of_decide_eq_true X
 refine bL 23 [[],[],[],[1,2],[3],[0,4],[5],[6],[7],[7,8],[7,9],[10],[10],[10,11,12],[10,13],[10],[10],[10,16],[10,15,17],[10,18],[10,14,19],[7,10,20],[7,21]] [39,40,41,42,43,44,45,46,47,48,49,50,51,52,53,54,55,56,57,58,59,60,61] [v5,K,jI (j:Int),elP K ((j:Int).toNat*1),jI (D.getD j 0),.bool true,.bool false,.bool false,jI (j:Int),.bool true,.bool true,K,jI (j:Int),elP K ((j:Int).toNat*1),jI (D.getD j 0),K,jI (j:Int),jI ((j:Int)-1),elP K (((j:Int)-1).toNat*1),jI (D.getD (((j:Int)-1).toNat) 0),.bool (decide (D.getD j 0≤D.getD (((j:Int)-1).toNat) 0)),.bool (decide (D.getD j 0≤D.getD (((j:Int)-1).toNat) 0)),.bool (decide (D.getD j 0≤D.getD (((j:Int)-1).toNat) 0))] F A ?_ ?_
 exact⟨aJ,aJ,aJ,aJ,aJ,.inl ⟨A,iP (aF A A (fun w J=>aI (gU (coneS n B) (D.getD j 0) _ w ((aB 0 A) w J) O))) M⟩,aJ,aJ,aJ,aJ,aJ,aJ,aJ,aJ,aJ,aJ,aJ,aJ,aJ,aJ,aJ,aJ,aJ,trivial⟩
 simp only[drop_succ_cons,drop_zero]
 refine dL ?_
 refine fO A (fun a4=>?_) (fun a4=>?_)
 have a6:D.getD j 0≤D.getD (((j:Int)-1).toNat) 0:=of_decide_eq_true a4
 refine cF 1 A ?_
 refine cW (dE ?_)
 refine rR ?_
 refine dE (cK ?_)
 exact aT A A (congrArg Value.bool (pL (p:=CutP n B D) (fun h=>Ip (by first|exact .inl I|exact .inr ⟨O,O⟩) (h.el j O))).symm)
 have a6:¬(D.getD j 0≤D.getD (((j:Int)-1).toNat) 0):=of_decide_eq_false a4
 refine gP (eB (cN 1 A (aN A (eY A A A) (eS 1 A ?_))))
 exact dR (j+1) ⟨O,fun i hi=>by by_cases e:i=j;(subst e;exact Eq I (by first|exact .inl O|exact .inr O));exact a2 i O⟩ O (bV A) (cZ A)
 have a3:¬(0<(j:Int)):=of_decide_eq_false X
 refine bL 23 [[],[],[],[1,2],[3],[0,4],[5],[6],[7],[7,8],[7,9],[10],[10],[10],[10],[10],[10],[10],[10],[10],[10],[7,10,20],[7,21]] [39,40,41,42,43,44,45,46,47,48,49,50,51,52,53,54,55,56,57,58,59,60,61] [v5,K,jI (j:Int),elP K ((j:Int).toNat*1),jI (D.getD j 0),.bool true,.bool false,.bool false,jI (j:Int),.bool false,.bool false,undef,undef,undef,undef,undef,undef,undef,undef,undef,undef,.bool false,.bool false] F A ?_ ?_
 exact⟨aJ,aJ,aJ,aJ,aJ,.inl ⟨A,iP (aF A A (fun w J=>aI (gU (coneS n B) (D.getD j 0) _ w ((aB 0 A) w J) O))) M⟩,aJ,aJ,aJ,aJ,aJ,aJ,aJ,aJ,aJ,aJ,aJ,aJ,aJ,aJ,aJ,aJ,aJ,trivial⟩
 simp only[drop_succ_cons,drop_zero]
 refine dL (jQ A (eB (cN 1 A (aN A (eY A A A) (eS 1 A ?_)))))
 exact dR (j+1) ⟨O,fun i hi=>by by_cases e:i=j;(subst e;exact Eq I (by first|exact .inl O|exact .inr O));exact a2 i O⟩ O (bV A) (cZ A)
 refine bL 23 [[],[],[],[1,2],[3],[0,4],[5],[6],[7],[7],[7],[10],[10],[10],[10],[10],[10],[10],[10],[10],[10],[7],[7,21]] [39,40,41,42,43,44,45,46,47,48,49,50,51,52,53,54,55,56,57,58,59,60,61] [v5,K,jI (j:Int),elP K ((j:Int).toNat*1),jI (D.getD j 0),.bool false,.bool true,.bool true,undef,undef,undef,undef,undef,undef,undef,undef,undef,undef,undef,undef,undef,undef,.bool true] F A ?_ ?_
 exact⟨aJ,aJ,aJ,aJ,aJ,.inl ⟨A,iP (aF A A (fun w J=>aI (gU (coneS n B) (D.getD j 0) _ w ((aB 0 A) w J) O))) M⟩,aJ,aJ,aJ,aJ,aJ,aJ,aJ,aJ,aJ,aJ,aJ,aJ,aJ,aJ,aJ,aJ,aJ,trivial⟩
 simp only[drop_succ_cons,drop_zero]
 refine dL (aR A (cF 1 A ?_))
 refine cW (dE ?_)
 refine rR ?_
 refine dE (cK ?_)
 exact aT A A (congrArg Value.bool (pL (p:=CutP n B D) (fun h=>Ip (by first|exact .inl I|exact .inr ⟨O,O⟩) (h.el j O))).symm)
 refine dL (aV A ?_)
 refine bW (fM ?_)
 refine aO (bB (dW (aN A (aP (cs:=[jI n.ins,n.sv,n.av,n.ov]) A A A A A (aM 1 A 0 A)) ?_)))
 refine cM A (aF A A (fun w J=>aI (dK n w (hr.below J.bel) U))) (cH A (fB (z:=.bool false) (s:=1) (bytes:=1) (n:=(replicate n.cnt.toNat bl0).length) (cs:=((replicate n.cnt.toNat bl0).flatMap blC)) A Tryz.underlying61 A V A A AB AB AF (fZ blC 1 (fun _=>A) bl0 _ A n.cnt.toNat)) ?_)
 intro a7
 refine bG 1 A (aG (cN 2 A ?_))
 have ar:(replicate n.cnt.toNat bl0).length=n.cnt.toNat:=length_replicate
 refine aN A (cV 1 A A A A (aB 0 A)) (dS (i:=0) (n':=((replicate n.cnt.toNat bl0).set (B.toNat) { (replicate n.cnt.toNat bl0).getD (B.toNat) bl0 with b:=true }).length) A A A A A A A A AA List.length_set.symm (eF blC (fun r=>.bool r.b) (fun _=>A) _ ({ (replicate n.cnt.toNat bl0).getD (B.toNat) bl0 with b:=true }) A) A ?_)
 refine dL (aG (cF 2 A (bS ?_)))
 refine nX (α:=Nat) (β:=List Bl) (fun k G=>[rS9 4 1 (.slice (some ⟨a7,0,none⟩) ((replicate n.cnt.toNat bl0).length) ((replicate n.cnt.toNat bl0).length)) G blC,rowE 3 1 v5 ((coneS n B).length) (mI (coneS n B)),nB9 b1 n]) (fun k G=>[(0,.agg #[jI n.ins,n.sv,n.av,n.ov]),(1,jI B),(2,K),(3,pI b1),(6,.bool false),(7,v5),(9,.slice (some ⟨a7,0,none⟩) ((replicate n.cnt.toNat bl0).length) ((replicate n.cnt.toNat bl0).length)),(10,jI (k:Int)),(29,.bool false),(36,.bool false)]) (fun k G=>(k:Int)≤B∧opn n D B.toNat (opn0 n B)=opn n D k G∧G.length=n.cnt.toNat) (fun k G=>k) B.toNat _ ⟨O,rfl,by rw[length_set,length_replicate]⟩ (bE [9,7,6,3,2,1,0] _ (sk 10 (congrArg (fun x=>some (Value.int .i64 x)) O) (aD [36,29] rfl)) rfl) (cZ rfl) ?_
 intro k G a8
 obtain⟨hk,Y,au⟩:=a8
 refine aG (aG (cN 1 A ?_))
 refine fJ A A A A A A (fun ad=>?_) (fun ad=>?_)
 refine dL (aR A (eC (jR (aG (aG (cN 2 A (aN A (cV 1 A A A A (aB 0 A)) ?_)))))))
 refine aN A (aL (u:=.bool ((G.getD k bl0).b)) A A A (aB 0 A) (dF blC (fun r=>.bool r.b) (fun _=>A) G bl0 (show k<_ by omega))) (bD (fun a5=>?_) (fun a5=>?_))
 have Z:=a5
 refine aS 4 A (cM A (aF A A (fun w J=>aI (gU D (k:Int) _ w ((aE a0) w J) O))) ?_)
 refine bD (fun ae=>?_) (fun ae=>?_)
 refine bG 1 A (aR A ?_)
 refine bW (dB ?_)
 refine aO (bB (cN 1 A (aN A (nK A A A) (eS 1 A ?_))))
 exact bO (k-1) G ⟨O,Y.trans (Ab O (by first|exact .inl Z|exact .inr I)),by first|omega|(simp only[length_set];omega)⟩ O (bE [9,7,6,3,2,1,0] _ (sk 10 (congrArg (fun x=>some (Value.int .i64 x)) O) (aD [36,29] A)) A) (cZ A)
 refine bG 1 A (aV A (eC (aG (aG (cN 1 A (aN A (aP (cs:=[jI n.ins,n.sv,n.av,n.ov]) A A A A A (aM 2 A 0 A)) ?_))))))
 refine cM A (aF A A (fun w J=>aI (dZ n w (hr.below J.bel) U))) (aW A A A A A A (fun af=>?_) (fun af=>?_))
 refine dL (aR A (cF 1 A ?_))
 refine cW (cK ?_)
 refine dE (rR ?_)
 refine dE (cK ?_)
 exact aT rfl rfl (congrArg Value.bool (pL (p:=CutP n B D) (fun h=>by have h9:=h.op;rw[Y,opn_no O Z I O] at h9;cases h9)).symm)
 refine dL (aV A (eC (aG ?_)))
 have a9:=U.an ((k:Int)-n.fst).toNat O
 unfold LtOk at a9
 refine eI A 9 [0,1,2,3,4,5,6,7,8] (List.take 9 _) (List.drop 9 _) [[],[0],[],[],[3],[2,4],[1,5],[6],[]] [87,88,89,90,91,92,93,94,11] (fun i_ aw v_ p_=>match i_ with|0=>v_=.pointer (some ⟨b1,0+2,none⟩)∧p_=[]|1=>v_=n.av∧p_=[]|2=>v_=jI (k:Int)∧p_=[]|3=>v_=.agg #[jI n.ins,n.sv,n.av,n.ov]∧p_=[]|4=>v_=jI n.fst∧p_=[]|5=>v_=jI ((k:Int)-n.fst)∧p_=[]|6=>v_=elP n.av (((k:Int)-n.fst).toNat*2)∧p_=[]|7=>v_=.agg #[jI ((n.gs.getD (((k:Int)-n.fst).toNat) an0).a),jI ((n.gs.getD (((k:Int)-n.fst).toNat) an0).b)]∧p_=[]|8=>IsBox #[jI 0,jI 0] 145 v_ p_|_=>True) (take_append_drop 9 _).symm F F A A ?_ ?_
 refine⟨?_,?_,?_,?_,?_,?_,?_,?_,?_,trivial⟩
 intro vf pf E
 exact fG A (aD [3] A) (aK (fY 2 A A A))
 intro vf pf E
 have e0:=E 0 V
 exact eH A (aX 87 e0.1 (aA _)) (aK (bJ A A A (bA 2 A A)))
 intro vf pf E
 exact fG A (aD [10] A) (aK (aU A))
 intro vf pf E
 exact eH A (aD [3] A) (aK (aP (cs:=[jI n.ins,n.sv,n.av,n.ov]) A A A A A (aM 2 A 0 A)))
 intro vf pf E
 have e3:=E 3 V
 exact eH A (aX 90 e3.1 (aA _)) (aF A A (fun w J=>aI (dZ n w (hr.below J.bel) U)))
 intro vf pf E
 have e2:=E 2 V
 have e4:=E 4 V
 exact fG A (aX 89 e2.1 (aX 91 e4.1 (aA _))) (aK (nK A A A))
 intro vf pf E
 have e1:=E 1 V
 have e5:=E 5 V
 exact eH A (aX 88 e1.1 (aX 92 e5.1 (aA _))) (aK (cV 2 A A A A (aE hr.an)))
 intro vf pf E
 have e6:=E 6 V
 exact eH A (aX 93 e6.1 (aA _)) (aK (cO (us:=[jI ((n.gs.getD (((k:Int)-n.fst).toNat) an0).a),jI ((n.gs.getD (((k:Int)-n.fst).toNat) an0).b)]) A A A A (aE hr.an) O A (dQ anC 2 (fun _=>A) n.gs an0 (show((k:Int)-n.fst).toNat<_ by omega) A)))
 intro vf pf E
 exact eH A (aA _) (bY (z:=.agg #[jI 0,jI 0]) A A)
 intro vf pf E
 have e7:=E 7 V
 obtain⟨ax,aa,ag⟩:=E 8 V
 have q0:=E 0 V
 have q1:=E 1 V
 have q2:=E 2 V
 have q3:=E 3 V
 have q4:=E 4 V
 have q5:=E 5 V
 have q6:=E 6 V
 have q7:=E 7 V
 refine cL (bE [10,9,7,6,3,2,1,0] _ (aX 11 aa (bE [86,82,70,36,29] _ (aX 94 e7.1 (aA _)) A)) A) (by simp only[ag,aa,q0.2,q1.2,q2.2,q3.2,q4.2,q5.2,q6.2,q7.2,fS]<;>rfl) ?_
 simp only[drop_succ_cons,drop_zero]
 refine cA (cs':=#[jI ((n.gs.getD (((k:Int)-n.fst).toNat) an0).a),jI ((n.gs.getD (((k:Int)-n.fst).toNat) an0).b)]) (i:=0) (off:=0) (us:=[jI ((n.gs.getD (((k:Int)-n.fst).toNat) an0).a),jI ((n.gs.getD (((k:Int)-n.fst).toNat) an0).b)]) A A A A A A A (aC A (aC A bH)) A A A (dL (aG (cN 1 A (aN A (fY 0 A A A) (aN A (bJ A A A (bA 0 A A)) ?_)))))
 refine aN A (gD A A A AH) ?_
 refine aN A (cV 1 A A A A (aB 1 A)) (dS (i:=1) (n':=(G.set ((((n.gs.getD (((k:Int)-n.fst).toNat) an0).a) / 2).toNat) { G.getD ((((n.gs.getD (((k:Int)-n.fst).toNat) an0).a) / 2).toNat) bl0 with b:=true }).length) A A A A A A A A AA List.length_set.symm (eF blC (fun r=>.bool r.b) (fun _=>A) _ ({ G.getD ((((n.gs.getD (((k:Int)-n.fst).toNat) an0).a) / 2).toNat) bl0 with b:=true }) A) A ?_)
 refine dL (cN 1 A (aN A (fY 1 A A A) (aN A (bJ A A A (bA 0 A A)) ?_)))
 refine aN A (gD A A A AH) ?_
 refine aN A (cV 1 A A A A (aB 1 A) O AA) (dS (i:=1) (n':=((G.set ((((n.gs.getD (((k:Int)-n.fst).toNat) an0).a) / 2).toNat) { G.getD ((((n.gs.getD (((k:Int)-n.fst).toNat) an0).a) / 2).toNat) bl0 with b:=true }).set ((((n.gs.getD (((k:Int)-n.fst).toNat) an0).b) / 2).toNat) { (G.set ((((n.gs.getD (((k:Int)-n.fst).toNat) an0).a) / 2).toNat) { G.getD ((((n.gs.getD (((k:Int)-n.fst).toNat) an0).a) / 2).toNat) bl0 with b:=true }).getD ((((n.gs.getD (((k:Int)-n.fst).toNat) an0).b) / 2).toNat) bl0 with b:=true }).length) A A A A A A A A AA List.length_set.symm (eF blC (fun r=>.bool r.b) (fun _=>A) _ ({ (G.set ((((n.gs.getD (((k:Int)-n.fst).toNat) an0).a) / 2).toNat) { G.getD ((((n.gs.getD (((k:Int)-n.fst).toNat) an0).a) / 2).toNat) bl0 with b:=true }).getD ((((n.gs.getD (((k:Int)-n.fst).toNat) an0).b) / 2).toNat) bl0 with b:=true }) A) A ?_)
 refine cP (eB (cN 1 A (aN A (nK A A A) (eS 1 A ?_))))
 exact bO (k-1) ((G.set ((((n.gs.getD (((k:Int)-n.fst).toNat) an0).a) / 2).toNat) { G.getD ((((n.gs.getD (((k:Int)-n.fst).toNat) an0).a) / 2).toNat) bl0 with b:=true }).set ((((n.gs.getD (((k:Int)-n.fst).toNat) an0).b) / 2).toNat) { (G.set ((((n.gs.getD (((k:Int)-n.fst).toNat) an0).a) / 2).toNat) { G.getD ((((n.gs.getD (((k:Int)-n.fst).toNat) an0).a) / 2).toNat) bl0 with b:=true }).getD ((((n.gs.getD (((k:Int)-n.fst).toNat) an0).b) / 2).toNat) bl0 with b:=true }) ⟨O,Y.trans (Hq O Z I O),by first|omega|(simp only[length_set];omega)⟩ O (bE [9,7,6,3,2,1,0] _ (sk 10 (congrArg (fun x=>some (Value.int .i64 x)) O) (aD [36,29] A)) A) (eA [1,0,0] A)
 have Z:=a5
 refine bG 6 A (aR A ?_)
 refine bW (dB ?_)
 refine aO (bB (cN 1 A (aN A (nK A A A) (eS 1 A ?_))))
 exact bO (k-1) G ⟨O,Y.trans (Ab O (by first|exact .inl Z|exact .inr I)),by first|omega|(simp only[length_set];omega)⟩ O (bE [9,7,6,3,2,1,0] _ (sk 10 (congrArg (fun x=>some (Value.int .i64 x)) O) (aD [36,29] A)) A) (cZ A)
 refine dL (aV A ?_)
 refine bW (fM ?_)
 refine aO (bB (cF 1 A ?_))
 exact cW (aT A A (congrArg Value.bool (qH (p:=CutP n B D) ⟨O,fun i hi=>a2 i O,by rw[Y,show k=0 by omega];rfl⟩).symm))
theorem wG (n:Nt) (rs:List CRow) (v:Value) (w:World) (J:RdsNt w n) (D:NtOk n) (E:RdsCl w v rs) (G:∀r∈rs,r.xs.length≤400) :
   Calls Tryz.prog 121 #[.agg #[.int .i64 n.ins,n.sv,n.av,n.ov],v] w (Ans w (.bool (pBe (MapP n rs)))):=by
 have a2:=D.i0
 have a3:=D.i1
 have a4:=D.s1
 have a5:=D.a1
 have a6:=D.o1
 have Z:n.cnt=1+n.ins+n.ss.length+n.gs.length:=rfl
 have a0:n.fst=1+n.ins+n.ss.length:=rfl
 refine aY (N:=45) (args:=[.agg #[jI n.ins,n.sv,n.av,n.ov],v]) Tryz.func121 A A (dW ?_)
 refine cU A (cE A A) fun b1=>go ?_
 refine cM A (aF A A (fun w B=>aI (gG n w (J.below B.bel) D))) (go ?_)
 refine aN A (eV A A A (aE E.row)) (go ?_)
 refine aN A (eV A A A (aE J.an)) ?_
 refine jY A A A A A A (fun h2=>go ?_) (fun h2=>go ?_)
 exact aT A A (congrArg Value.bool (pL (p:=MapP n rs) (fun h=>by have M:=h.len;omega)).symm)
 refine lC (α:=Nat) [0,1,2,4,16] A (fun i=>[nB9 b1 n]) (fun i=>[(5,jI (i:Int))]) (fun i=>i≤rs.length∧∀j,j<i→CutP n (n.fst+(j:Int)) (rs.getD j crow0).xs∧hasB (rs.getD j crow0).xs (n.fst+(j:Int))=false) (fun i=>rs.length-i) 0 ⟨Nat.zero_le _,fun i hi=>absurd hi O⟩ (bV A) (cZ A) fun i Y=>go ?_
 obtain⟨hi,U⟩:=Y
 refine aN A (eV A A A (aE E.row)) ?_
 refine aW A A A A A A (fun h4=>go ?_) (fun h4=>go ?_)
 have X:=G _ (eN (es:=rs) (i:=i) (d:=crow0) O)
 rcases eq_false_or_eq_true (pBe (CutP n (n.fst+(i:Int)) (rs.getD i crow0).xs)) with K|K
 have X:=G _ (eN (es:=rs) (i:=i) (d:=crow0) O)
 refine bL 22 [[],[],[1],[],[2,3],[],[],[5,6],[7],[0,4,8],[9],[10],[11],[11],[11,12,13],[11,14],[11],[11,16],[11],[11,17,18],[11,15,19],[11,20]] [23,24,25,26,27,28,29,30,31,32,33,34,35,36,37,38,39,40,41,42,43,44] [.agg #[jI n.ins,n.sv,n.av,n.ov],.agg #[jI n.ins,n.sv,n.av,n.ov],jI n.fst,jI (i:Int),jI (n.fst+(i:Int)),v,jI (i:Int),elP v ((i:Int).toNat*1),(rs.getD i crow0).v,.bool true,.bool false,.bool false,v,jI (i:Int),elP v ((i:Int).toNat*1),(rs.getD i crow0).v,.agg #[jI n.ins,n.sv,n.av,n.ov],jI n.fst,jI (i:Int),jI (n.fst+(i:Int)),.bool (hasB ((rs.getD i crow0).xs) (n.fst+(i:Int))),.bool (hasB ((rs.getD i crow0).xs) (n.fst+(i:Int)))] F A ?_ ?_
 exact⟨aJ,aJ,.inl ⟨A,aF A A (fun w B=>aI (dZ n w (J.below B.bel) D))⟩,aJ,aJ,aJ,aJ,fL A (cV 1 A A A A (aE E.row)) A,fL A (aL (u:=(rs.getD i crow0).v) A A A (aE E.row) (dF crowC (fun r=>r.v) (fun _=>A) rs crow0 (show i<_ by omega))) A,.inl ⟨A,iP (aF F A (fun w B=>aI (pS n (n.fst+(i:Int)) (rs.getD i crow0).xs _ w (J.below B.bel) D ((E.at (k:=i) O).below B.bel) O O))) K⟩,aJ,aJ,aJ,aJ,fL A (cV 1 A A A A (aE E.row)) A,fL A (aL (u:=(rs.getD i crow0).v) A A A (aE E.row) (dF crowC (fun r=>r.v) (fun _=>A) rs crow0 (show i<_ by omega))) A,aJ,.inl ⟨A,aF A A (fun w B=>aI (dZ n w (J.below B.bel) D))⟩,aJ,aJ,.inl ⟨A,aF F A (fun w B=>aI (gU ((rs.getD i crow0).xs) (n.fst+(i:Int)) _ w ((aE (E.at (k:=i) O)) w B) O))⟩,aJ,trivial⟩
 simp only[drop_succ_cons,drop_zero]
 refine go ?_
 refine fO A (fun h6=>go ?_) (fun h6=>go ?_)
 exact aT A A (congrArg Value.bool (pL (p:=MapP n rs) (fun h=>by have M:=h.cut i O;first|(exact absurd (qH M.1) (by rw[show pBe (CutP n (n.fst+(i:Int)) (rs.getD i crow0).xs)=false by assumption];decide))|(exact absurd M.2 (by rw[show hasB (rs.getD i crow0).xs (n.fst+(i:Int))=true by assumption];decide)))).symm)
 exact dR (i+1) ⟨O,fun j hj=>by by_cases e:j=i;(subst e;exact⟨Hr I,I⟩);exact U j O⟩ O (bV A) (cZ A)
 have X:=G _ (eN (es:=rs) (i:=i) (d:=crow0) O)
 refine bL 22 [[],[],[1],[],[2,3],[],[],[5,6],[7],[0,4,8],[9],[10],[11],[11],[11],[11],[11],[11],[11],[11],[11],[11,20]] [23,24,25,26,27,28,29,30,31,32,33,34,35,36,37,38,39,40,41,42,43,44] [.agg #[jI n.ins,n.sv,n.av,n.ov],.agg #[jI n.ins,n.sv,n.av,n.ov],jI n.fst,jI (i:Int),jI (n.fst+(i:Int)),v,jI (i:Int),elP v ((i:Int).toNat*1),(rs.getD i crow0).v,.bool false,.bool true,.bool true,undef,undef,undef,undef,undef,undef,undef,undef,undef,.bool true] F A ?_ ?_
 exact⟨aJ,aJ,.inl ⟨A,aF A A (fun w B=>aI (dZ n w (J.below B.bel) D))⟩,aJ,aJ,aJ,aJ,fL A (cV 1 A A A A (aE E.row)) A,fL A (aL (u:=(rs.getD i crow0).v) A A A (aE E.row) (dF crowC (fun r=>r.v) (fun _=>A) rs crow0 (show i<_ by omega))) A,.inl ⟨A,iP (aF F A (fun w B=>aI (pS n (n.fst+(i:Int)) (rs.getD i crow0).xs _ w (J.below B.bel) D ((E.at (k:=i) O).below B.bel) O O))) K⟩,aJ,aJ,aJ,aJ,aJ,aJ,aJ,aJ,aJ,aJ,aJ,aJ,trivial⟩
 simp only[drop_succ_cons,drop_zero]
 refine go ?_
 exact aT A A (congrArg Value.bool (pL (p:=MapP n rs) (fun h=>by have M:=h.cut i O;first|(exact absurd (qH M.1) (by rw[show pBe (CutP n (n.fst+(i:Int)) (rs.getD i crow0).xs)=false by assumption];decide))|(exact absurd M.2 (by rw[show hasB (rs.getD i crow0).xs (n.fst+(i:Int))=true by assumption];decide)))).symm)
 exact aT A A (congrArg Value.bool (qH (p:=MapP n rs) ⟨O,fun j hj=>U j O⟩).symm)
theorem oZ (n:Nt) (h:Int) (B:List Int) (cv:Value) (w:World) (hr:RdsNt w n) (U:NtOk n) (J:RdsW w cv 1 B.length (B.map (Value.int .i64))) (a8:0≤h∧h<n.cnt) (a4:CutP n h B) :
   Calls Tryz.prog 125 #[.agg #[.int .i64 n.ins,n.sv,n.av,n.ov],.int .i64 h,cv] w (Ret w (fun u_ M=>∃b:Int,u_=.agg #[.int .i64 (B.length:Int),.int .i64 b]∧M=[]∧TabOk (Tab.mk (B.length:Int) b))):=by
 have am:=U.i0
 have ao:=U.i1
 have ap:=U.s1
 have aq:=U.a1
 have ar:=U.o1
 have ai:n.cnt=1+n.ins+n.ss.length+n.gs.length:=rfl
 have aj:n.fst=1+n.ins+n.ss.length:=rfl
 have ak:=a4.len
 have au:=Cl (n:=(B.length:Int)) O
 refine aY (N:=96) (args:=[.agg #[jI n.ins,n.sv,n.av,n.ov],jI h,cv]) Tryz.func125 A A (dW ?_)
 refine cU A (cE A A) ?_
 intro b1
 refine cU A (bY (z:=.agg #[jI 0,jI 0]) A A) ?_
 intro b2
 refine dL (kE (aN A (aP (cs:=[jI n.ins,n.sv,n.av,n.ov]) A A A A A (aM 1 A 0 A)) (aS 2 A ?_)))
 refine cM A (aF A A (fun w K=>aI (by have h9:=pS n h B cv w (hr.below K.bel) U (J.below K.bel) a8 O;rw[qH a4] at h9;exact h9))) (aS 1 A (cP (bB (aV A (gP (bB (aG (bP (aS 1 A (aN A (eV A A A (aE J)) (aN A (dG (cs:=#[jI (B.length:Int),jI 0]) A A A) ?_)))))))))))
 refine cU A (bY (z:=.agg #[jI 0,jI 0]) A A) ?_
 intro b3
 refine cA (cs':=#[jI (B.length:Int),jI 0]) (i:=0) (off:=0) (us:=[jI (B.length:Int),jI 0]) A A A A A A A (aC A (aC A bH)) A A A (dL (aG (cF 1 A (bS ?_))))
 refine iG (α:=Nat) (β:=Int) [0,1,2,3,6,7,18] A (fun i b=>[boxE b3 #[jI (B.length:Int),jI b] 153,boxE b2 #[jI 0,jI 0] 153,nB9 b1 n]) (fun i b=>[(8,jI (i:Int))]) (fun i b=>i≤pn (B.length:Int)∧0≤b∧b<2 ^ i) (fun i b=>pn (B.length:Int)-i) 0 0 ⟨Nat.zero_le _,Int.le_refl _,V⟩ (bV A) (cZ A) ?_
 intro i b a9
 obtain⟨hi,a2,a3⟩:=a9
 have al:=Lh (k:=i) O
 refine aG (aG (bP (aS 2 A (aN A (eV A A A (aE J)) (aN A (oJ (k:=.i64) (kk:=.i64) (r:=(pn (B.length:Int):Int)) A A A A O (wr1 O)) ?_)))))
 refine aW A A A A A A (fun h5=>?_) (fun h5=>?_)
 refine dL (aR A (eC (jR (dW (aN A (aP (cs:=[jI n.ins,n.sv,n.av,n.ov]) A A A A A (aM 2 A 0 A)) ?_)))))
 refine cM A (aF A A (fun w K=>aI (dK n w (hr.below K.bel) U))) (cH A (fB (z:=jI 0) (s:=1) (bytes:=8) (n:=(replicate n.cnt.toNat (0:Int)).length) (cs:=(mI (replicate n.cnt.toNat (0:Int)))) A z8 A V A A AB AB AF (gW _)) ?_)
 intro g6
 refine bG 1 A (aG (cF 1 A (bS ?_)))
 refine iG (α:=Nat) (β:=List Int) [0,1,2,3,6,7,8,9,18,27] rfl (fun k vs=>[rI9 3 (.slice (some ⟨g6,0,none⟩) ((replicate n.cnt.toNat (0:Int)).length) ((replicate n.cnt.toNat (0:Int)).length)) vs,boxE b3 #[jI (B.length:Int),jI b] 153,boxE b2 #[jI 0,jI 0] 153,nB9 b1 n]) (fun k vs=>[(10,jI (k:Int))]) (fun k vs=>(k:Int)≤h+1∧vs.length=n.cnt.toNat∧B01 vs) (fun k vs=>h.toNat+1-k) 0 _ ⟨O,by rw[length_replicate],Ld _⟩ (bV rfl) (cZ rfl) ?_
 intro k vs aa
 obtain⟨hk,ab,a0⟩:=aa
 refine aG (aG (cN 2 A ?_))
 refine iA A A A A A A (fun h8=>?_) (fun h8=>?_)
 refine dL (aR A (eC (jR (cF 1 A ?_))))
 refine aG (cF 1 A (bS ?_))
 refine fP (α:=Nat) (β:=List Int) (γ:=Bool) [0,1,2,3,6,7,8,9,10,18,27,35] A (fun j e sb=>[rI9 3 (.slice (some ⟨g6,0,none⟩) ((replicate n.cnt.toNat (0:Int)).length) ((replicate n.cnt.toNat (0:Int)).length)) e,boxE b3 #[jI (B.length:Int),jI b] 153,boxE b2 #[jI 0,jI 0] 153,nB9 b1 n]) (fun j e sb=>[(11,.bool sb),(12,jI (j:Int))]) (fun j e sb=>j≤B.length∧e.length=n.cnt.toNat∧B01 e) (fun j e sb=>B.length-j) 0 vs false ⟨Nat.zero_le _,ab,a0⟩ (bV A) (cZ A) ?_
 intro j e sb ac
 obtain⟨hj,G,D⟩:=ac
 refine aG (aG (cN 2 A (aN A (eV A A A (aE J)) ?_)))
 refine aW A A A A A A (fun ad=>?_) (fun ad=>?_)
 refine dL (aR A (eC (jR (aG (cN 2 A (aN A (cV 1 A A A A (aE J)) (aN A (lD A A A (aE J)) (aS 1 A ?_))))))))
 refine bZ A A A A A A (fun ae=>?_) (fun ae=>?_)
 refine(cP (bB (aR A (aG (bP (aS 4 A (aN A (rv_shr A A A O) (aN A (jU A V A A (r:=((i:Int) / 2 ^ (j:Int).toNat % 2)) (andB _ O)) (aN A (cV 1 A A A A (aB 0 A)) ?_)))))))))
 refine dS (i:=0) (n':=(e.set k ((i:Int) / 2 ^ (j:Int).toNat % 2)).length) (xs':=(mI (e.set k ((i:Int) / 2 ^ (j:Int).toNat % 2)))) A A A A A A A A AA List.length_set.symm (eP _ _ _) A (dL (bP (eS 1 A (eB (cN 1 A (aN A (eY A A A) (aS 1 A (?_))))))))
 exact cP (aQ (j+1) (e.set k ((i:Int) / 2 ^ (j:Int).toNat % 2)) true ⟨O,by rw[length_set];exact G,Ey D O⟩ O (bV rfl) (cZ rfl))
 refine dL (jQ A (eB (cN 1 A (aN A (eY A A A) (eS 1 A ?_)))))
 exact aQ (j+1) e sb ⟨O,G,D⟩ O (bV A) (cZ A)
 refine dL (aV A ?_)
 refine bW (fM ?_)
 refine aO (bB (aG (cN 1 A ?_)))
 refine bD (fun af=>?_) (fun af=>?_)
 refine bG 7 A (jQ A (eB (cN 1 A ?_)))
 refine aN A (eY A A A) (eS 1 A ?_)
 exact bO (k+1) e ⟨O,G,D⟩ O (bV A) (cZ A)
 refine aS 3 A (aN A (aP (cs:=[jI n.ins,n.sv,n.av,n.ov]) A A A A A (aM 3 A 0 A)) ?_)
 refine cM A (aF A A (fun w K=>aI (dZ n w (hr.below K.bel) U))) (eK A A A A A A (fun ag=>?_) (fun ag=>?_))
 refine bG 1 A (aR A (aG ?_))
 have a5:=U.an ((k:Int)-n.fst).toNat O
 unfold LtOk at a5
 refine eI A 9 [0,1,2,3,4,5,6,7,8] (List.take 9 _) (List.drop 9 _) [[],[0],[],[],[3],[2,4],[1,5],[6],[]] [65,66,67,68,69,70,71,72,13] (fun i_ aw X M=>match i_ with|0=>X=.pointer (some ⟨b1,0+2,none⟩)∧M=[]|1=>X=n.av∧M=[]|2=>X=jI (k:Int)∧M=[]|3=>X=.agg #[jI n.ins,n.sv,n.av,n.ov]∧M=[]|4=>X=jI n.fst∧M=[]|5=>X=jI ((k:Int)-n.fst)∧M=[]|6=>X=elP n.av (((k:Int)-n.fst).toNat*2)∧M=[]|7=>X=.agg #[jI ((n.gs.getD (((k:Int)-n.fst).toNat) an0).a),jI ((n.gs.getD (((k:Int)-n.fst).toNat) an0).b)]∧M=[]|8=>IsBox #[jI 0,jI 0] 145 X M|_=>True) (take_append_drop 9 _).symm F F A A ?_ ?_
 refine⟨?_,?_,?_,?_,?_,?_,?_,?_,?_,trivial⟩
 intro vf Y E
 exact fG A (aD [3] A) (aK (fY 2 A A A))
 intro vf Y E
 have e0:=E 0 V
 exact eH A (aX 65 e0.1 (aA _)) (aK (bJ A A A (bA 3 A A)))
 intro vf Y E
 exact fG A (aD [10] A) (aK (aU A))
 intro vf Y E
 exact eH A (aD [3] A) (aK (aP (cs:=[jI n.ins,n.sv,n.av,n.ov]) A A A A A (aM 3 A 0 A)))
 intro vf Y E
 have e3:=E 3 V
 exact eH A (aX 68 e3.1 (aA _)) (aF A A (fun w K=>aI (dZ n w (hr.below K.bel) U)))
 intro vf Y E
 have e2:=E 2 V
 have e4:=E 4 V
 exact fG A (aX 67 e2.1 (aX 69 e4.1 (aA _))) (aK (nK A A A))
 intro vf Y E
 have e1:=E 1 V
 have e5:=E 5 V
 exact eH A (aX 66 e1.1 (aX 70 e5.1 (aA _))) (aK (cV 2 A A A A (aE hr.an)))
 intro vf Y E
 have e6:=E 6 V
 exact eH A (aX 71 e6.1 (aA _)) (aK (cO (us:=[jI ((n.gs.getD (((k:Int)-n.fst).toNat) an0).a),jI ((n.gs.getD (((k:Int)-n.fst).toNat) an0).b)]) A A A A (aE hr.an) O A (dQ anC 2 (fun _=>A) n.gs an0 (show((k:Int)-n.fst).toNat<_ by omega) A)))
 intro vf Y E
 exact eH A (aA _) (bY (z:=.agg #[jI 0,jI 0]) A A)
 intro vf Y E
 have e7:=E 7 V
 obtain⟨a6,a7,ah⟩:=E 8 V
 have q0:=E 0 V
 have q1:=E 1 V
 have q2:=E 2 V
 have q3:=E 3 V
 have q4:=E 4 V
 have q5:=E 5 V
 have q6:=E 6 V
 have q7:=E 7 V
 refine cL (bE [12,11,10,9,8,7,6,3,2,1,0] _ (aX 13 a7 (bE [64,41,35,27,18] _ (aX 72 e7.1 (aA _)) A)) A) (by simp only[ah,a7,q0.2,q1.2,q2.2,q3.2,q4.2,q5.2,q6.2,q7.2,fS]<;>rfl) ?_
 simp only[drop_succ_cons,drop_zero]
 refine cA (cs':=#[jI ((n.gs.getD (((k:Int)-n.fst).toNat) an0).a),jI ((n.gs.getD (((k:Int)-n.fst).toNat) an0).b)]) (i:=0) (off:=0) (us:=[jI ((n.gs.getD (((k:Int)-n.fst).toNat) an0).a),jI ((n.gs.getD (((k:Int)-n.fst).toNat) an0).b)]) A A A A A A A (aC A (aC A bH)) A A A (dL ?_)
 refine bL 12 [[],[],[],[],[3],[2,4],[],[],[7],[6,8],[5,9],[0,1]] [73,74,75,76,77,78,79,80,81,82,83,84] [.slice (some ⟨g6,0,none⟩) ((replicate n.cnt.toNat (0:Int)).length) ((replicate n.cnt.toNat (0:Int)).length),jI (k:Int),.slice (some ⟨g6,0,none⟩) ((replicate n.cnt.toNat (0:Int)).length) ((replicate n.cnt.toNat (0:Int)).length),.pointer (some ⟨a6,0+0,none⟩),jI ((n.gs.getD (((k:Int)-n.fst).toNat) an0).a),jI (bitL e ((n.gs.getD (((k:Int)-n.fst).toNat) an0).a)),.slice (some ⟨g6,0,none⟩) ((replicate n.cnt.toNat (0:Int)).length) ((replicate n.cnt.toNat (0:Int)).length),.pointer (some ⟨a6,0+1,none⟩),jI ((n.gs.getD (((k:Int)-n.fst).toNat) an0).b),jI (bitL e ((n.gs.getD (((k:Int)-n.fst).toNat) an0).b)),jI ((bitL e ((n.gs.getD (((k:Int)-n.fst).toNat) an0).a))*(bitL e ((n.gs.getD (((k:Int)-n.fst).toNat) an0).b))),elP (.slice (some ⟨g6,0,none⟩) ((replicate n.cnt.toNat (0:Int)).length) ((replicate n.cnt.toNat (0:Int)).length)) ((k:Int).toNat*1)] F A ?_ ?_
 exact⟨aJ,aJ,aJ,aJ,aJ,.inl ⟨A,aF F A (fun w K=>aI (uS e ((n.gs.getD (((k:Int)-n.fst).toNat) an0).a) _ w ((aB 1 A) w K) O (D _ O) O))⟩,aJ,aJ,aJ,.inl ⟨A,aF F A (fun w K=>aI (uS e ((n.gs.getD (((k:Int)-n.fst).toNat) an0).b) _ w ((aB 1 A) w K) O (D _ O) O))⟩,fL A (jU A V A A (r:=(bitL e ((n.gs.getD (((k:Int)-n.fst).toNat) an0).a))*(bitL e ((n.gs.getD (((k:Int)-n.fst).toNat) an0).b))) (and01 (vS D O O) (vS D O O))) A,aJ,trivial⟩
 simp only[drop_succ_cons,drop_zero]
 refine dS (i:=1) (n':=(e.set k ((bitL e ((n.gs.getD (((k:Int)-n.fst).toNat) an0).a))*(bitL e ((n.gs.getD (((k:Int)-n.fst).toNat) an0).b)))).length) (xs':=((e.set k ((bitL e ((n.gs.getD (((k:Int)-n.fst).toNat) an0).a))*(bitL e ((n.gs.getD (((k:Int)-n.fst).toNat) an0).b)))).map (Value.int .i64))) A A A A A A A A AA List.length_set.symm (eP _ _ _) A (cP (eB (cN 1 A (aN A (eY A A A) (eS 1 A ?_)))))
 exact bO (k+1) (e.set k ((bitL e ((n.gs.getD (((k:Int)-n.fst).toNat) an0).a))*(bitL e ((n.gs.getD (((k:Int)-n.fst).toNat) an0).b)))) ⟨O,by rw[length_set];exact G,Ey D (mul_01 (vS D O O) (vS D O O))⟩ O (bV rfl) (eA [1,0,0,0] rfl)
 refine bG 1 A (jQ A (eB (cN 1 A (aN A (eY A A A) (eS 1 A ?_)))))
 exact bO (k+1) e ⟨O,G,D⟩ O (bV A) (cZ A)
 refine dL (aV A ?_)
 refine bW (fM ?_)
 refine aO (bB ?_)
 have Z:=a0 h.toNat O
 refine bL 10 [[],[0],[],[],[2,3],[4],[],[5,6],[1,7],[]] [85,86,87,88,89,90,91,92,93,94] [.pointer (some ⟨b3,0+1,none⟩),jI b,.slice (some ⟨g6,0,none⟩) ((replicate n.cnt.toNat (0:Int)).length) ((replicate n.cnt.toNat (0:Int)).length),jI h,elP (.slice (some ⟨g6,0,none⟩) ((replicate n.cnt.toNat (0:Int)).length) ((replicate n.cnt.toNat (0:Int)).length)) (h.toNat*1),jI (vs.getD (h.toNat) 0),jI (i:Int),jI ((vs.getD h.toNat 0)*2 ^ i),jI (b+((vs.getD h.toNat 0)*2 ^ i)),.pointer (some ⟨b3,0+1,none⟩)] F A ?_ ?_
 exact⟨aJ,aJ,aJ,aJ,aJ,aJ,aJ,fL A (oJ (k:=.i64) (kk:=.i64) (r:=(vs.getD h.toNat 0)*2 ^ i) A A A A O (Ha Z O)) A,fL A (pF A A A (by rcases Z with e9|e9<;>rw[e9]<;>constructor<;>omega)) A,aJ,trivial⟩
 simp only[drop_succ_cons,drop_zero]
 refine gB (i:=1) (cs':=#[jI (B.length:Int),jI (b+((vs.getD h.toNat 0)*2 ^ i))]) A A A A A A A A A A A (cP (eB (cN 1 A (aN A (eY A A A) (eS 1 A ?_)))))
 exact bO (i+1) (b+((vs.getD h.toNat 0)*2 ^ i)) ⟨O,(xD ⟨a2,a3⟩ Z).1,(xD ⟨a2,a3⟩ Z).2⟩ O (bV A) (eA [1,0,0] A)
 refine dL (aV A ?_)
 refine bW (fM ?_)
 refine aO (bB (aG (bP (aN A (aP (cs:=[jI (B.length:Int),jI b]) A A A A A (aM 0 A 0 A)) ?_))))
 refine cA (cs':=#[jI (B.length:Int),jI b]) (i:=1) (off:=0) (us:=[jI (B.length:Int),jI b]) A A A A A A A (aC A (aC A bH)) A A A (dL ?_)
 exact cW (eQ (rs:=[.cell 6 153]) (vs:=[.agg #[jI (B.length:Int),jI b]]) (post:=[]) A ⟨⟨b2,0,[jI (B.length:Int),jI b],A,A,F,F,aM 1 A 0 A⟩,trivial⟩ A (eA [] A) ⟨b,A,A,Iz O O ⟨a2,a3⟩⟩)
def ndL (to xs:List Int):List Int:=xs.map fun x=>to.getD x.toNat 0
theorem qM (to xs:List Int):(ndL to xs).length=xs.length:=by simp[ndL]
theorem ndL_at {to xs:List Int}{j:Nat}(h:j<xs.length):(ndL to xs).getD j 0=to.getD (xs.getD j 0).toNat 0:=by
  unfold ndL;rw[getD_eq_getElem?_getD,List.getElem?_map,List.getElem?_eq_getElem h,getD_eq_getElem?_getD (l:=xs),List.getElem?_eq_getElem h];rfl
def rtN (to no:List Int) (l:Int):Int:=if l % 2=0 then to.getD (l / 2).toNat 0 else no.getD (l / 2).toNat 0
def rtL (to no ls:List Int):List Int:=ls.map (rtN to no)
theorem xZ (to no xs:List Int):(rtL to no xs).length=xs.length:=by simp[rtL]
theorem uD {to no:List Int}{l:Int}(h:l % 2=0):rtN to no l=to.getD (l / 2).toNat 0:=if_pos h
theorem xY {to no:List Int}{l:Int}(h:¬l % 2=0):rtN to no l=no.getD (l / 2).toNat 0:=if_neg h
abbrev On (bs:List Bl) (k:Int):Prop:=(bs.getD k.toNat bl0).b=true
theorem uK {bs:List Bl}{k:Int}{j:Nat}(h:On bs k):On (bs.set j ⟨true⟩) k:=by
  unfold On at *
  by_cases e:j=k.toNat
  · subst e
    by_cases hl:k.toNat<bs.length
    · rw[fQ hl]
    · rw[List.set_eq_of_length_le (by omega)];exact h
  · rw[getD_eq_getElem?_getD,List.getElem?_set_ne e,←getD_eq_getElem?_getD];exact h
theorem yE {e:List Bl}{k:Int}{j:Nat}(B:j=k.toNat) (h:j<e.length):On (e.set j ⟨true⟩) k:=by
  subst B;unfold On;rw[fQ h]
theorem on_old {e:List Bl}{k:Int}{j:Nat}(B:j≠k.toNat) (h:On (e.set j ⟨true⟩) k):On e k:=by
  unfold On at *
  rwa [getD_eq_getElem?_getD,List.getElem?_set_ne B,←getD_eq_getElem?_getD] at h
def RtU (pos neg:List Bl) (l:Int):Prop:=(l % 2=0→On pos (l / 2))∧(¬l % 2=0→On neg (l / 2))
theorem RtU.pos {pos B:List Bl}{l:Int}(h:RtU pos B l) (j:Nat):RtU (pos.set j ⟨true⟩) B l:=⟨fun e=>uK (h.1 e),h.2⟩
theorem RtU.neg {pos B:List Bl}{l:Int}(h:RtU pos B l) (j:Nat):RtU pos (B.set j ⟨true⟩) l:=⟨h.1,fun e=>uK (h.2 e)⟩
def RtsU (pos neg:List Bl) (R:List Int) (k:Nat):Prop:=∀j,j<k→RtU pos neg (R.getD j 0)
theorem RtsU.even {pos B:List Bl}{R:List Int}{k:Nat}(h:RtsU pos B R k) {j:Nat}(D:j=(R.getD k 0 / 2).toNat) (E:j<pos.length) (G:R.getD k 0 % 2=0):RtsU (pos.set j ⟨true⟩) B R (k+1):=fun q K=>by
  by_cases e:q=k
  · subst e;exact⟨fun _=>yE D E,fun J=>absurd G J⟩
  · exact(h q O).pos j
theorem RtsU.odd {pos B:List Bl}{R:List Int}{k:Nat}(h:RtsU pos B R k) {j:Nat}(D:j=(R.getD k 0 / 2).toNat) (E:j<B.length) (G:¬R.getD k 0 % 2=0):RtsU pos (B.set j ⟨true⟩) R (k+1):=fun q K=>by
  by_cases e:q=k
  · subst e;exact⟨fun J=>absurd J G,fun _=>yE D E⟩
  · exact(h q O).neg j
theorem RtsU.set {pos e:List Bl}{R:List Int}{k:Nat}(h:RtsU pos e R k) (j:Nat):RtsU (pos.set j ⟨true⟩) e R k:=fun q B=>(h q B).pos j
def UseP (f:Int) (rs:List CRow) (pos neg:List Bl) (q:Nat):Prop:=(On pos (f+q)∨On neg (f+q))→∀k,k<(rs.getD q crow0).xs.length→On pos ((rs.getD q crow0).xs.getD k 0)
theorem UseP.set {f:Int}{rs:List CRow}{pos e:List Bl}{q:Nat}(h:UseP f rs pos e q) {j:Nat}(B:j≠(f+q).toNat):UseP f rs (pos.set j ⟨true⟩) e q:=fun D k E=>uK (h (D.imp (on_old B) id) k E)
def TosOk (pos:List Bl) (f:Int) (L:Nat) (tos:List Int):Prop:=∀j,j<tos.length→((j:Int)<f∨On pos j)→0≤tos.getD j 0∧tos.getD j 0<f+L
theorem TosOk.nil (pos:List Bl) (f:Int):TosOk pos f 0 []:=fun j e=>absurd e AI
theorem TosOk.app {pos:List Bl}{f x:Int}{L L':Nat}{tos:List Int}(h:TosOk pos f L tos) (hl:L≤L') (hx:((tos.length:Int)<f∨On pos tos.length)→0≤x∧x<f+L'):TosOk pos f L' (tos++[x]):=fun j hj hp=>by
  rw[length_append,length_singleton] at hj
  by_cases e:j<tos.length
  · rw[gM e];have:=h j e hp;omega
  · have e2 : j = tos.length := by omega
    subst e2
    rw[hC (Nat.le_refl _),Nat.sub_self];exact hx hp
theorem TosOk.up {pos:List Bl}{f:Int}{L B:Nat}{e:List Int}(h:TosOk pos f L e) (G:L≤B):TosOk pos f B e:=fun j D E=>by have:=h j D E;omega
def NosOk (neg:List Bl) (f:Int) (L k:Nat) (nos:List Int):Prop:=∀j,j<k→On neg j→0≤nos.getD j 0∧nos.getD j 0<f+L
theorem NosOk.skip {B:List Bl}{f:Int}{L k:Nat}{D:List Int}(h:NosOk B f L k D) (G:(B.getD k bl0).b=false):NosOk B f L (k+1) D:=fun j J E=>by
  by_cases e:j=k
  · subst e;unfold On at E;rw[Int.toNat_natCast,G] at E;cases E
  · exact h j O E
theorem NosOk.put {neg:List Bl}{f x:Int}{L L' k:Nat}{nos:List Int}(h:NosOk neg f L k nos) (hk:k<nos.length) (hl:L≤L') (hx:0≤x∧x<f+L'):NosOk neg f L' (k+1) (nos.set k x):=fun j hj ho=>by
  by_cases e:j=k
  · subst e;rw[fQ hk];exact hx
  · rw [getD_eq_getElem?_getD, List.getElem?_set_ne (by omega), ← getD_eq_getElem?_getD]
    have:=h j (by omega) ho;omega
def LutsOk (f:Int) (ls:List Lt):Prop:=∀i,i<ls.length→LutP (f+i) (ls.getD i lt0)
theorem LutsOk.nil (f:Int):LutsOk f []:=fun i e=>absurd e AI
theorem LutsOk.app {f:Int}{ls:List Lt}{x:Lt}(h:LutsOk f ls) (hx:LutP (f+ls.length) x):LutsOk f (ls++[x]):=fun j hj=>by
  rw[length_append,length_singleton] at hj
  by_cases e:j<ls.length
  · rw[gM e];exact h j e
  · have e2 : j = ls.length := by omega
    subst e2
    rw[hC (Nat.le_refl _),Nat.sub_self];exact hx
theorem Jj {t:Tab}(h:TabOk t) {n:Int}(e:t.N=n):TabP n t.B:=by subst e;exact h
theorem LutP.one {f k:Int}{v:Value}(e:0≤k) (h:k<f):LutP f (Lt.mk v [k] 1):=⟨⟨AI,fun j B=>by
  have:j=0:=by simp at B;omega
  subst this;exact⟨e,h⟩⟩,by show TabP 1 1;unfold TabP;decide⟩
theorem LutP.none {f:Int}{v:Value}:LutP f (Lt.mk v [] 1):=⟨⟨AI,fun j e=>absurd e AI⟩,by show TabP 0 1;unfold TabP;decide⟩
theorem Bn {pos:List Bl}{f:Int}{L:Nat}{e xs:List Int}(h:TosOk pos f L e) (D:∀k,k<xs.length→0≤xs.getD k 0∧xs.getD k 0<e.length) (E:∀k,k<xs.length→On pos (xs.getD k 0)):BelowP (ndL e xs) (f+L):=fun j B=>by
  rw[qM] at B
  rw[ndL_at B]
  have G:=D j B
  have J:=E j B
  exact h _ O (.inr (by unfold On at *;rwa [Int.toNat_natCast]))
theorem Ke {e xs:List Int}{x:Int}(B:∀k,k<xs.length→0≤xs.getD k 0∧xs.getD k 0<e.length):ndL (e++[x]) xs=ndL e xs:=by
  unfold ndL
  refine List.map_congr_left fun y D=>?_
  obtain⟨i,h,rfl⟩:=List.mem_iff_getElem.1 D
  have:=B i h
  rw[getD_eq_getElem?_getD,List.getElem?_eq_getElem h] at this
  exact gM (by simp only[Option.getD_some] at this;omega)
theorem Eg {t:Tab}{f:Int}{v:Value}{xs:List Int}(e:TabOk t) (h:t.N=xs.length) (D:xs.length≤4) (E:BelowP xs f):LutP f (Lt.mk v xs t.B):=⟨⟨D,E⟩,Jj e h⟩
theorem Bm {pos neg:List Bl}{f c:Int}{L:Nat}{tos nos ls:List Int}(h:TosOk pos f L tos) (h2:NosOk neg f L nos.length nos) (hl:(tos.length:Int)=c) (hl2:(nos.length:Int)=c) (hx:∀l∈ls,LtOk l c∧RtU pos neg l):BelowP (rtL tos nos ls) (f+L):=fun j hj=>by
  rw[xZ] at hj
  have h9:=hx _ (dJ (d:=(0:Int)) hj)
  have e:(rtL tos nos ls).getD j 0=rtN tos nos (ls.getD j 0):=by
    unfold rtL;rw[getD_eq_getElem?_getD,List.getElem?_map,List.getElem?_eq_getElem hj,getD_eq_getElem?_getD (l:=ls),List.getElem?_eq_getElem hj];rfl
  rw[e]
  obtain⟨h91,h92⟩:=h9
  unfold LtOk at h91
  by_cases he:ls.getD j 0 % 2=0
  · rw [uD he]
    have:=h92.1 he
    exact h _ (by omega) (.inr (by unfold On at *;rwa [Int.toNat_natCast]))
  · rw [xY he]
    have:=h92.2 he
    exact h2 _ (by omega) (by unfold On at *;rwa [Int.toNat_natCast])
theorem RtsU.all {pos e:List Bl}{R:List Int}(h:RtsU pos e R R.length):∀l∈R,RtU pos e l:=fun l D=>by
  obtain⟨i,B,rfl⟩:=List.mem_iff_getElem.1 D
  have:=h i B
  rwa [getD_eq_getElem?_getD,List.getElem?_eq_getElem B] at this
theorem rts_os {n:Nt}{l:Int}(h:l∈n.os):l∈rtsL n n.ss.length:=by unfold rtsL;exact List.mem_append.2 (.inl h)
theorem rts_sq {n:Nt}{s:Sq}(e:s∈n.ss) {l:Int}(h:l∈s.xs):l∈rtsL n n.ss.length:=by
  unfold rtsL;rw[take_length];exact List.mem_append.2 (.inr (List.mem_flatMap.2 ⟨s,e,h⟩))
def RdsLuts (w:World) (ls:List Lt):Prop:=∀r∈ls,RdsW w r.iv 1 r.xs.length (r.xs.map (Value.int .i64))
theorem RdsLuts.nil (w:World):RdsLuts w []:=fun r e=>by cases e
theorem RdsLuts.app {w:World}{B:List Lt}{r:Lt}(h:RdsLuts w B) (D:RdsW w r.iv 1 r.xs.length (r.xs.map (Value.int .i64))):RdsLuts w (B++[r]):=fun q e=>by
  rcases List.mem_append.1 e with e|e
  · exact h q e
  · rw[mem_singleton] at e;subst e;exact D
def SqsN (c:Int) (ss:List Sq):Prop:=∀k,k<ss.length→SqOk (ss.getD k sq0)∧BelowP (ss.getD k sq0).xs c
theorem SqsN.nil (c:Int):SqsN c []:=fun i e=>absurd e AI
theorem SqsN.app {c:Int}{ss:List Sq}{x:Sq}(h:SqsN c ss) (h1:SqOk x) (h2:BelowP x.xs c):SqsN c (ss++[x]):=fun j hj=>by
  rw[length_append,length_singleton] at hj
  by_cases e:j<ss.length
  · rw[gM e];exact h j e
  · have e2 : j = ss.length := by omega
    subst e2
    rw[hC (Nat.le_refl _),Nat.sub_self];exact⟨h1,h2⟩
theorem Gx {s:Sq}(h:SqOk s) {xs:List Int}(e:xs.length=s.xs.length) (v:Value):SqOk (Sq.mk s.kd s.it v xs):=⟨by rw[show(Sq.mk s.kd s.it v xs).xs.length=s.xs.length from e];exact h.kind⟩
def ln00:Ln:=Ln.mk 0 (.slice none 0 0) (.slice none 0 0) (.slice none 0 0) [] [] []
theorem Ki:LnOk ln00:=⟨⟨V,V,V,V⟩,fun j e=>absurd e (by simp[ln00]),fun j e=>absurd e (by simp[ln00]),fun j e=>absurd e (by simp[ln00])⟩
theorem ln_mk {n:Nt}{sv B ov:Value}{h:List Sq}{e:List Lt}{os:List Int}(D:NtOk n) (E:h.length=n.ss.length) (J:e.length≤400) (K:os.length≤16) (M:BelowP os (n.fst+e.length)) (U:SqsN (n.fst+e.length) h) (X:LutsOk n.fst e):LnOk (Ln.mk n.ins sv B ov h e os):=by
  have G:(Ln.mk n.ins sv B ov h e os).cnt=n.fst+e.length:=by show 1+n.ins+(h.length:Int)+e.length=1+n.ins+(n.ss.length:Int)+e.length;rw[E]
  have Y:(Ln.mk n.ins sv B ov h e os).fst=n.fst:=by show 1+n.ins+(h.length:Int)=1+n.ins+(n.ss.length:Int);rw[E]
  exact⟨⟨⟨D.i0,D.i1⟩,by rw[E];exact D.s1,J,K⟩,by rw[G];exact M,fun k Z=>by rw[G];exact U k Z,fun i hi=>by rw[Y];exact X i hi⟩
theorem vR (e:Value) (h:Int) (B:e.oneCell'=true):Tryz.prog.built 157 [(0,e),(1,.int .i64 h)]=some #[e,.int .i64 h]:=by
  (cases e<;>first|(exact absurd B Bool.false_ne_true)|kernel_rfl)
theorem qU (to xs:List Int) (u v:Value) (w:World) (h:RdsW w u 1 to.length (to.map (Value.int .i64))) (E:RdsW w v 1 xs.length (xs.map (Value.int .i64))) (G:∀k,k<xs.length→0≤xs.getD k 0∧xs.getD k 0<to.length) (Z:xs.length≤1000) :
   Calls Tryz.prog 126 #[u,v] w (Ret w (fun J post=>post=[rI9 3 J (ndL to xs)])):=by
 have K:=vV h
 refine aY (N:=25) (args:=[u,v]) Tryz.func126 A A (cF 1 A (dW ?_))
 refine cH A (bU (s:=1) A z8 A) fun g1=>go ?_
 refine fP (α:=Nat) (β:=Value) (γ:=List Int) [0,1,4] A (fun i e zs=>[rI9 3 e zs]) (fun i e zs=>[(5,e),(6,jI (i:Int))]) (fun i e zs=>i≤xs.length∧zs=ndL to (xs.take i)) (fun i e zs=>xs.length-i) 0 _ [] ⟨O,A⟩ (bV A) (cZ A) fun i e zs B=>go ?_
 obtain⟨hi,D⟩:=B
 have M:zs.length=i:=by rw[D];unfold ndL;rw[length_map,length_take];omega
 refine aW A A A A A A (fun U=>go ?_) (fun U=>go ?_)
 have X:=G i O
 refine aN A (cV 1 A A A A (aE E)) (aN A (lD A A A (aE E)) (aN A (cV 1 A A A A (aE h)) (aN A (lP A A A (aE h)) ?_)))
 refine cH A (aH (z:=jI 0) (s:=1) (cs:=(mI [to.getD ((xs.getD i 0).toNat) 0])) A z8 A V A F A) fun g4=>?_
 refine bT (i:=1) (z:=jI 0) (bytes:=8) A A A A z8 F A A A A (aB 0 A) (bI _) AD (bK zs ([to.getD ((xs.getD i 0).toNat) 0])) (cB zs ([to.getD ((xs.getD i 0).toNat) 0])) (fun _=>A) fun Y=>go ?_
 exact aQ (i+1) Y (zs++([to.getD ((xs.getD i 0).toNat) 0])) ⟨O,by rw[D];unfold ndL;rw[hY 0 (show i<xs.length by omega),map_append];rfl⟩ O (bV rfl) (eA [1] rfl)
 exact bM (post:=[rI9 3 e zs]) A A (cZ A) (by rw[D,List.take_of_length_le O])
theorem qS (to no xs:List Int) (u t v:Value) (w:World) (E:RdsW w u 1 to.length (to.map (Value.int .i64))) (G:RdsW w t 1 no.length (no.map (Value.int .i64))) (e:RdsW w v 1 xs.length (xs.map (Value.int .i64))) (J:∀k,k<xs.length→0≤xs.getD k 0∧xs.getD k 0<2*to.length) (hl:xs.length≤1000) (K:to.length≤1000∧no.length=to.length) :
   Calls Tryz.prog 128 #[u,t,v] w (Ret w (fun M post=>post=[rI9 3 M (rtL to no xs)])):=by
 refine aY (N:=45) (args:=[u,t,v]) Tryz.func128 A A (cF 1 A (dW ?_))
 refine cH A (bU (s:=1) A z8 A) ?_
 intro g1
 refine bG 1 A (aG (cF 1 A (bS ?_)))
 refine fP (α:=Nat) (β:=Value) (γ:=List Int) [0,1,2,6] A (fun i h zs=>[rI9 3 h zs]) (fun i h zs=>[(7,h),(8,jI (i:Int))]) (fun i h zs=>i≤xs.length∧zs=rtL to no (xs.take i)) (fun i h zs=>xs.length-i) 0 _ [] ⟨O,A⟩ (bV A) (cZ A) ?_
 intro i h zs D
 obtain⟨hi,B⟩:=D
 have U:zs.length=i:=by rw[B];unfold rtL;rw[length_map,length_take];omega
 refine aG (aG (cN 2 A (aN A (eV A A A (aE e)) ?_)))
 refine aW A A A A A A (fun X=>?_) (fun X=>?_)
 refine dL (aR A (eC (jR (dW ?_))))
 have Y:=J i O
 refine aS 2 A (aN A (cV 1 A A A A (aE e)) (aN A (lD A A A (aE e)) (aN A (fT A A A AE) ?_)))
 refine bZ A A A A A A (fun Z=>?_) (fun Z=>?_)
 refine dL (aR A (cN 4 A (aN A (cV 1 A A A A (aE e)) (aN A (lD A A A (aE e)) ?_))))
 refine aN A (gD A A A AH) ?_
 refine aN A (cV 1 A A A A (aE E)) (aN A (lP A A A (aE E)) ?_)
 refine cH A (aH (z:=jI 0) (s:=1) (cs:=(mI [to.getD (((xs.getD i 0) / 2).toNat) 0])) A z8 A V A F A) ?_
 intro g5
 refine bT (i:=1) (z:=jI 0) (bytes:=8) A A A A z8 F A A A A (aB 0 A) (bI _) AD (bK zs ([to.getD (((xs.getD i 0) / 2).toNat) 0])) (cB zs ([to.getD (((xs.getD i 0) / 2).toNat) 0])) (fun _=>A) ?_
 intro v6
 refine eS 1 A (eB (cN 1 A (aN A (eY A A A) (eS 1 A ?_))))
 exact aQ (i+1) v6 (zs++([to.getD (((xs.getD i 0) / 2).toNat) 0])) ⟨O,by rw[B];unfold rtL;rw[hY 0 (show i<xs.length by omega),map_append];first|(rw[←uD (to:=to) (no:=no) I];rfl)|(rw[←xY (to:=to) (no:=no) I];rfl)⟩ O (bV rfl) (eA [1] rfl)
 refine dL (aV A (cN 4 A (aN A (cV 1 A A A A (aE e)) (aN A (lD A A A (aE e)) ?_))))
 refine aN A (gD A A A AH) ?_
 refine aN A (cV 1 A A A A (aE G)) (aN A (lP A A A (aE G)) ?_)
 refine cH A (aH (z:=jI 0) (s:=1) (cs:=(mI [no.getD (((xs.getD i 0) / 2).toNat) 0])) A z8 A V A F A) ?_
 intro g7
 refine bT (i:=1) (z:=jI 0) (bytes:=8) A A A A z8 F A A A A (aB 0 A) (bI _) AD (bK zs ([no.getD (((xs.getD i 0) / 2).toNat) 0])) (cB zs ([no.getD (((xs.getD i 0) / 2).toNat) 0])) (fun _=>A) ?_
 intro v8
 refine eS 1 A (eB (cN 1 A (aN A (eY A A A) (eS 1 A ?_))))
 exact aQ (i+1) v8 (zs++([no.getD (((xs.getD i 0) / 2).toNat) 0])) ⟨O,by rw[B];unfold rtL;rw[hY 0 (show i<xs.length by omega),map_append];first|(rw[←uD (to:=to) (no:=no) I];rfl)|(rw[←xY (to:=to) (no:=no) I];rfl)⟩ O (bV rfl) (eA [1] rfl)
 refine dL (aV A ?_)
 refine bW (fM ?_)
 refine aO (bB (cF 2 A ?_))
 exact cW (bM (post:=[rI9 3 h zs]) A A (cZ A) (by rw[B,List.take_of_length_le O]))
end Go.Proofs.YtkbplgggflljlaaGreat
