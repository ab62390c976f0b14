/- Texts of the law FnCutRefutes, part 6: what it uses. -/
import Derived.Test.YtkbplgggflljlaaGreatCtr5
set_option linter.unusedVariables false
set_option linter.unusedSimpArgs false
set_option maxHeartbeats 4000000
set_option maxRecDepth 100000
namespace Go.Proofs.YtkbplgggflljlaaGreat
open Go.RowKit Go.ChangeShapes
open Go.RowKit
open Go.Maps
open List (drop_succ_cons drop_zero getD_eq_getElem?_getD length_append length_cons length_drop length_map length_replicate length_set length_singleton length_take map_append map_cons map_nil mem_cons_of_mem mem_cons_self mem_range mem_singleton nil_append replicate sublist_append_right take_append_drop take_length)
open Bool (and_eq_true eq_false_or_eq_true)
theorem zE (d:Dev) (s0:Int) (r:Rt) (qs:List Int) (qv:Value) (w:World) (hd:devB d=true) (D:RdsW w r.nv 1 r.ns.length (r.ns.map (Value.int .i64))) (Y:RdsW w r.fv 1 r.fs.length (r.fs.map (Value.int .i64))) (hq:RdsW w qv 1 qs.length (qs.map (Value.int .i64))) (cc:qs.length≤100000) (ap:∀x∈qs,0≤x∧x<1000000) (aq:∀x∈r.ns,0≤x∧x<1000000) (cd:r.ns.length≤1000000) (ce:r.fs.length≤1000000) :
   Calls Tryz.prog 42 #[.agg #[.int .i64 d.W,.int .i64 d.H,.int .i64 d.T,.int .i64 d.R],.int .i64 s0,qv,.agg #[r.nv,r.fv]] w (Ret w (fun v' post=>∃b_:Bool,v'=.bool b_∧post=[]∧(b_=true→TrP d s0 r.ns∧∀q∈qs,q∈r.ns))):=by
 obtain⟨cf,cg⟩:=eM hd
 refine aY (N:=126) (args:=[.agg #[jI d.W,jI d.H,jI d.T,jI d.R],jI s0,qv,.agg #[r.nv,r.fv]]) Tryz.func42 A A (dW ?_)
 refine cU A (cE A A) fun b1=>?_
 refine cU A (cE A A) fun G=>go ?_
 rcases eq_false_or_eq_true (decide ((r.ns.length:Int)<1)) with a5|a5
 have ad:(r.ns.length:Int)<1:=of_decide_eq_true a5
 refine bL 42 [[],[0],[1],[2],[3],[4],[4],[4],[4],[4],[4],[4,10],[11],[12],[12],[12],[12],[12],[12],[12],[12,19],[20],[21],[21],[21],[21],[21],[21],[21,27],[28],[29],[29],[29],[29],[29,33],[34],[35],[35],[35],[35],[35],[35,40]] [14,15,16,17,18,19,20,21,22,23,24,25,26,27,28,29,30,31,32,33,34,35,36,37,38,39,40,41,42,43,44,45,46,47,48,49,50,51,52,53,54,55] [.pointer (some ⟨G,0+0,none⟩),r.nv,jI (r.ns.length:Int),.bool true,.bool true,undef,undef,undef,undef,undef,undef,.bool true,.bool true,undef,undef,undef,undef,undef,undef,undef,.bool true,.bool true,undef,undef,undef,undef,undef,undef,.bool true,.bool true,undef,undef,undef,undef,.bool true,.bool true,undef,undef,undef,undef,undef,.bool true] F A ?_ ?_
 exact⟨aJ,aJ,fL A (eV A A A (aE D)) A,aJ,aJ,aJ,aJ,aJ,aJ,aJ,aJ,aJ,aJ,aJ,aJ,aJ,aJ,aJ,aJ,aJ,aJ,aJ,aJ,aJ,aJ,aJ,aJ,aJ,aJ,aJ,aJ,aJ,aJ,aJ,aJ,aJ,aJ,aJ,aJ,aJ,aJ,aJ,trivial⟩
 simp only[drop_succ_cons,drop_zero]
 refine go ?_
 exact bM (post:=[]) A A (eA [] A) ⟨false,A,A,fun h=>by cases h⟩
 have ad:¬((r.ns.length:Int)<1):=of_decide_eq_false a5
 rcases eq_false_or_eq_true (decide (allI d<(r.ns.length:Int))) with a6|a6
 have ae:allI d<(r.ns.length:Int):=of_decide_eq_true a6
 refine bL 42 [[],[0],[1],[2],[3],[4],[4,5],[4,6],[4],[4,8],[4,7,9],[4,10],[11],[12],[12],[12],[12],[12],[12],[12],[12,19],[20],[21],[21],[21],[21],[21],[21],[21,27],[28],[29],[29],[29],[29],[29,33],[34],[35],[35],[35],[35],[35],[35,40]] [14,15,16,17,18,19,20,21,22,23,24,25,26,27,28,29,30,31,32,33,34,35,36,37,38,39,40,41,42,43,44,45,46,47,48,49,50,51,52,53,54,55] [.pointer (some ⟨G,0+0,none⟩),r.nv,jI (r.ns.length:Int),.bool false,.bool false,.pointer (some ⟨G,0+0,none⟩),r.nv,jI (r.ns.length:Int),.agg #[jI d.W,jI d.H,jI d.T,jI d.R],jI (allI d),.bool true,.bool true,.bool true,undef,undef,undef,undef,undef,undef,undef,.bool true,.bool true,undef,undef,undef,undef,undef,undef,.bool true,.bool true,undef,undef,undef,undef,.bool true,.bool true,undef,undef,undef,undef,undef,.bool true] F A ?_ ?_
 exact⟨aJ,aJ,fL A (eV A A A (aE D)) A,aJ,aJ,aJ,aJ,fL A (eV A A A (aE D)) A,aJ,.inl ⟨A,aF A A (fun w Z=>aI (gY d hd w))⟩,aJ,aJ,aJ,aJ,aJ,aJ,aJ,aJ,aJ,aJ,aJ,aJ,aJ,aJ,aJ,aJ,aJ,aJ,aJ,aJ,aJ,aJ,aJ,aJ,aJ,aJ,aJ,aJ,aJ,aJ,aJ,aJ,trivial⟩
 simp only[drop_succ_cons,drop_zero]
 refine go ?_
 exact bM (post:=[]) A A (eA [] A) ⟨false,A,A,fun h=>by cases h⟩
 have ae:¬(allI d<(r.ns.length:Int)):=of_decide_eq_false a6
 rcases eq_false_or_eq_true ((r.fs.length:Int) != (r.ns.length:Int)) with a7|a7
 have af:(r.fs.length:Int)≠(r.ns.length:Int):=bne_iff_ne.1 a7
 refine bL 42 [[],[0],[1],[2],[3],[4],[4,5],[4,6],[4],[4,8],[4,7,9],[4,10],[11],[12],[12,13],[12,14],[12],[12,16],[12,17],[12,15,18],[12,19],[20],[21],[21],[21],[21],[21],[21],[21,27],[28],[29],[29],[29],[29],[29,33],[34],[35],[35],[35],[35],[35],[35,40]] [14,15,16,17,18,19,20,21,22,23,24,25,26,27,28,29,30,31,32,33,34,35,36,37,38,39,40,41,42,43,44,45,46,47,48,49,50,51,52,53,54,55] [.pointer (some ⟨G,0+0,none⟩),r.nv,jI (r.ns.length:Int),.bool false,.bool false,.pointer (some ⟨G,0+0,none⟩),r.nv,jI (r.ns.length:Int),.agg #[jI d.W,jI d.H,jI d.T,jI d.R],jI (allI d),.bool false,.bool false,.bool false,.pointer (some ⟨G,0+1,none⟩),r.fv,jI (r.fs.length:Int),.pointer (some ⟨G,0+0,none⟩),r.nv,jI (r.ns.length:Int),.bool true,.bool true,.bool true,undef,undef,undef,undef,undef,undef,.bool true,.bool true,undef,undef,undef,undef,.bool true,.bool true,undef,undef,undef,undef,undef,.bool true] F A ?_ ?_
 exact⟨aJ,aJ,fL A (eV A A A (aE D)) A,aJ,aJ,aJ,aJ,fL A (eV A A A (aE D)) A,aJ,.inl ⟨A,aF A A (fun w Z=>aI (gY d hd w))⟩,aJ,aJ,aJ,aJ,aJ,fL A (eV A A A (aE Y)) A,aJ,aJ,fL A (eV A A A (aE D)) A,aJ,aJ,aJ,aJ,aJ,aJ,aJ,aJ,aJ,aJ,aJ,aJ,aJ,aJ,aJ,aJ,aJ,aJ,aJ,aJ,aJ,aJ,aJ,trivial⟩
 simp only[drop_succ_cons,drop_zero]
 refine go ?_
 exact bM (post:=[]) A A (eA [] A) ⟨false,A,A,fun h=>by cases h⟩
 have af:(r.fs.length:Int)=(r.ns.length:Int):=(bne_eq_false_iff_eq.1 a7)
 rcases eq_false_or_eq_true ((r.ns.getD 0 0) != s0) with a8|a8
 have ag:r.ns.getD 0 0≠s0:=bne_iff_ne.1 a8
 refine bL 42 [[],[0],[1],[2],[3],[4],[4,5],[4,6],[4],[4,8],[4,7,9],[4,10],[11],[12],[12,13],[12,14],[12],[12,16],[12,17],[12,15,18],[12,19],[20],[21],[21,22],[21,23],[21,24],[21],[21,25,26],[21,27],[28],[29],[29],[29],[29],[29,33],[34],[35],[35],[35],[35],[35],[35,40]] [14,15,16,17,18,19,20,21,22,23,24,25,26,27,28,29,30,31,32,33,34,35,36,37,38,39,40,41,42,43,44,45,46,47,48,49,50,51,52,53,54,55] [.pointer (some ⟨G,0+0,none⟩),r.nv,jI (r.ns.length:Int),.bool false,.bool false,.pointer (some ⟨G,0+0,none⟩),r.nv,jI (r.ns.length:Int),.agg #[jI d.W,jI d.H,jI d.T,jI d.R],jI (allI d),.bool false,.bool false,.bool false,.pointer (some ⟨G,0+1,none⟩),r.fv,jI (r.fs.length:Int),.pointer (some ⟨G,0+0,none⟩),r.nv,jI (r.ns.length:Int),.bool false,.bool false,.bool false,.pointer (some ⟨G,0+0,none⟩),r.nv,elP r.nv ((0:Int).toNat*1),jI (r.ns.getD 0 0),jI s0,.bool true,.bool true,.bool true,undef,undef,undef,undef,.bool true,.bool true,undef,undef,undef,undef,undef,.bool true] F A ?_ ?_
 exact⟨aJ,aJ,fL A (eV A A A (aE D)) A,aJ,aJ,aJ,aJ,fL A (eV A A A (aE D)) A,aJ,.inl ⟨A,aF A A (fun w Z=>aI (gY d hd w))⟩,aJ,aJ,aJ,aJ,aJ,fL A (eV A A A (aE Y)) A,aJ,aJ,fL A (eV A A A (aE D)) A,aJ,aJ,aJ,aJ,aJ,aJ,fL A (aL (u:=jI (r.ns.getD 0 0)) A A A (aE D) (cJ (show _<r.ns.length by omega))) A,aJ,aJ,aJ,aJ,aJ,aJ,aJ,aJ,aJ,aJ,aJ,aJ,aJ,aJ,aJ,aJ,trivial⟩
 simp only[drop_succ_cons,drop_zero]
 refine go ?_
 exact bM (post:=[]) A A (eA [] A) ⟨false,A,A,fun h=>by cases h⟩
 have ag:r.ns.getD 0 0=s0:=(bne_eq_false_iff_eq.1 a8)
 rcases eq_false_or_eq_true (outB d s0) with a9|a9
 refine bL 42 [[],[0],[1],[2],[3],[4],[4,5],[4,6],[4],[4,8],[4,7,9],[4,10],[11],[12],[12,13],[12,14],[12],[12,16],[12,17],[12,15,18],[12,19],[20],[21],[21,22],[21,23],[21,24],[21],[21,25,26],[21,27],[28],[29],[29],[29,30,31],[29,32],[29,33],[34],[35],[35,36],[35,37],[35,38],[35,39],[35,40]] [14,15,16,17,18,19,20,21,22,23,24,25,26,27,28,29,30,31,32,33,34,35,36,37,38,39,40,41,42,43,44,45,46,47,48,49,50,51,52,53,54,55] [.pointer (some ⟨G,0+0,none⟩),r.nv,jI (r.ns.length:Int),.bool false,.bool false,.pointer (some ⟨G,0+0,none⟩),r.nv,jI (r.ns.length:Int),.agg #[jI d.W,jI d.H,jI d.T,jI d.R],jI (allI d),.bool false,.bool false,.bool false,.pointer (some ⟨G,0+1,none⟩),r.fv,jI (r.fs.length:Int),.pointer (some ⟨G,0+0,none⟩),r.nv,jI (r.ns.length:Int),.bool false,.bool false,.bool false,.pointer (some ⟨G,0+0,none⟩),r.nv,elP r.nv ((0:Int).toNat*1),jI (r.ns.getD 0 0),jI s0,.bool false,.bool false,.bool false,.agg #[jI d.W,jI d.H,jI d.T,jI d.R],jI s0,.bool true,.bool false,.bool false,.bool false,.pointer (some ⟨G,0+1,none⟩),r.fv,elP r.fv ((0:Int).toNat*1),jI (r.fs.getD 0 0),.bool ((r.fs.getD 0 0) != 0),.bool ((r.fs.getD 0 0) != 0)] F A ?_ ?_
 exact⟨aJ,aJ,fL A (eV A A A (aE D)) A,aJ,aJ,aJ,aJ,fL A (eV A A A (aE D)) A,aJ,.inl ⟨A,aF A A (fun w Z=>aI (gY d hd w))⟩,aJ,aJ,aJ,aJ,aJ,fL A (eV A A A (aE Y)) A,aJ,aJ,fL A (eV A A A (aE D)) A,aJ,aJ,aJ,aJ,aJ,aJ,fL A (aL (u:=jI (r.ns.getD 0 0)) A A A (aE D) (cJ (show _<r.ns.length by omega))) A,aJ,aJ,aJ,aJ,aJ,aJ,.inl ⟨A,iP (aF A A (fun w Z=>aI (oX d s0 w))) a9⟩,aJ,aJ,aJ,aJ,aJ,aJ,fL A (aL (u:=jI (r.fs.getD 0 0)) A A A (aE Y) (cJ (show _<r.fs.length by omega))) A,aJ,aJ,trivial⟩
 simp only[drop_succ_cons,drop_zero]
 refine go ?_
 refine fO A (fun h8=>go ?_) (fun h8=>go ?_)
 have ar:r.fs.getD 0 0≠0:=bne_iff_ne.1 h8
 exact bM (post:=[]) A A (eA [] A) ⟨false,A,A,fun h=>by cases h⟩
 have ar:r.fs.getD 0 0=0:=(bne_eq_false_iff_eq.1 h8)
 refine fF A A A (pJ A) fun v9 ch au=>?_
 obtain⟨aa,rfl,rfl⟩:=au
 refine go ?_
 refine iG (α:=Nat) (β:=List Int) [0,1,2,3,4,7,8,9,55,58,59] A (fun k sn=>[setE aa sn,boxE G #[r.nv,r.fv] 36,boxE b1 #[jI d.W,jI d.H,jI d.T,jI d.R] 25]) (fun k sn=>[(60,jI (k:Int))]) (fun k sn=>k≤r.ns.length∧sn=(r.ns.take k).reverse∧∀i,i<k→r.ns.getD i 0=s0∨∃j,j<i∧r.ns.getD j 0∈srcI d (r.ns.getD i 0)) (fun k sn=>r.ns.length-k) 0 [] ⟨O,A,fun i hi=>absurd hi O⟩ (bV A) (cZ A) fun k sn ah=>go ?_
 obtain⟨hk,a3,a4⟩:=ah
 have ci:sn.length≤k:=by rw[a3,List.length_reverse,length_take];omega
 refine aW A A A A A A (fun aw=>go ?_) (fun aw=>go ?_)
 refine aN A (cV 1 A A A A (aE D)) (aN A (lD A A A (aE D)) (go ?_))
 obtain⟨c7,c8⟩:=aq (r.ns.getD k 0) (dV O)
 have c9:=oG d (r.ns.getD k 0)
 refine cM A (aF A A (fun w Z=>aI (gO d _ w))) (bD (fun ax=>go ?_) (fun ax=>go ?_))
 refine aN A (qD (i:=0) (S:=sn) (k:=r.ns.getD k 0) A Tryz.underlying70 A A (lL O) A) ?_
 refine bD (fun ay=>go ?_) (fun ay=>go ?_)
 exact bM (post:=[]) A A (eA [] A) ⟨false,A,A,fun h=>by cases h⟩
 refine pQ (i:=0) (k:=r.ns.getD k 0) (l':=[setE aa ((r.ns.getD k 0)::sn),boxE G #[r.nv,r.fv] 36,boxE b1 #[jI d.W,jI d.H,jI d.T,jI d.R] 25]) A A A Tryz.underlying70 A A A (lL O) A (by first|omega|(simp;omega)) A (go ?_)
 rcases eq_false_or_eq_true (decide (0<(k:Int))) with a1|a1
 have ab:0<(k:Int):=of_decide_eq_true a1
 rcases eq_false_or_eq_true (inR (r.fs.getD k 0) 0 ((k:Int)-1)) with a2|a2
 obtain⟨cj,ck⟩:=(dA _ _ _).1 a2
 refine eI A 29 [0,1,2,3,4,5,6,7,8,9,10,11,12,13,14,15,16,17,18,19,20,21,22,23,24,25,26,27,28] (List.take 29 _) (List.drop 29 _) [[],[0],[1],[2],[2,3],[2],[2,4,5],[2,6],[2],[2,8],[2,7,9],[2,10],[2,11],[12],[12],[12,13,14],[12],[12,16],[12],[12,18],[12],[12,19,20],[12,21],[12,17,22],[12,23],[12,15,24],[12,15,25],[2,12,26],[2,27]] [76,77,78,79,80,81,82,83,84,85,86,87,88,89,90,91,92,93,94,95,96,97,98,99,100,101,102,103,104] (fun i_ cl J K=>match i_ with|0=>J=jI (k:Int)∧K=[]|1=>J=.bool true∧K=[]|2=>J=.bool true∧K=[]|3=>J=.pointer (some ⟨G,0+1,none⟩)∧K=[]|4=>J=r.fv∧K=[]|5=>J=jI (k:Int)∧K=[]|6=>J=elP r.fv ((k:Int).toNat*1)∧K=[]|7=>J=jI (r.fs.getD k 0)∧K=[]|8=>J=jI (k:Int)∧K=[]|9=>J=jI ((k:Int)-1)∧K=[]|10=>J=.bool true∧K=[]|11=>J=.bool false∧K=[]|12=>J=.bool false∧K=[]|13=>J=.agg #[jI d.W,jI d.H,jI d.T,jI d.R]∧K=[]|14=>J=jI (r.ns.getD k 0)∧K=[]|15=>(fun v' post=>post=[rI9 3 v' (srcI d (r.ns.getD k 0))]) J K|16=>J=.pointer (some ⟨G,0+0,none⟩)∧K=[]|17=>J=r.nv∧K=[]|18=>J=.pointer (some ⟨G,0+1,none⟩)∧K=[]|19=>J=r.fv∧K=[]|20=>J=jI (k:Int)∧K=[]|21=>J=elP r.fv ((k:Int).toNat*1)∧K=[]|22=>J=jI (r.fs.getD k 0)∧K=[]|23=>J=elP r.nv ((r.fs.getD k 0).toNat*1)∧K=[]|24=>J=jI (r.ns.getD ((r.fs.getD k 0).toNat) 0)∧K=[]|25=>J=.bool (hasB (srcI d (r.ns.getD k 0)) (r.ns.getD ((r.fs.getD k 0).toNat) 0))∧K=[]|26=>J=.bool (!(hasB (srcI d (r.ns.getD k 0)) (r.ns.getD ((r.fs.getD k 0).toNat) 0)))∧K=[]|27=>J=.bool (!(hasB (srcI d (r.ns.getD k 0)) (r.ns.getD ((r.fs.getD k 0).toNat) 0)))∧K=[]|28=>J=.bool (!(hasB (srcI d (r.ns.getD k 0)) (r.ns.getD ((r.fs.getD k 0).toNat) 0)))∧K=[]|_=>True) (take_append_drop 29 _).symm F F A A ?_ ?_
 refine⟨?_,?_,?_,?_,?_,?_,?_,?_,?_,?_,?_,?_,?_,?_,?_,?_,?_,?_,?_,?_,?_,?_,?_,?_,?_,?_,?_,?_,?_,trivial⟩
 intro vf E e
 exact fG A (aD [10] A) (aK (aU A))
 intro vf E e
 have e0:=e 0 V
 exact fG A (aX 76 e0.1 (aA _)) (dM (aK (jA A A A A)) (fun _ _ h=>⟨h.1.trans (congrArg Value.bool a1),h.2⟩))
 intro vf E e
 have e1:=e 1 V
 exact fG A (aX 77 e1.1 (aA _)) (aK (aU A))
 intro vf E e
 have X:=e 2 V
 refine Or.inl ⟨cC (congrArg some X.1) A,?_⟩
 exact aZ (aD [7] A) (aK (fY 1 A A A))
 intro vf E e
 have X:=e 2 V
 have e3:=e 3 V
 refine Or.inl ⟨cC (congrArg some X.1) A,?_⟩
 exact bC (aX 79 e3.1 (aA _)) z9 (aK (bJ A A A (bA 1 A A)))
 intro vf E e
 have X:=e 2 V
 refine Or.inl ⟨cC (congrArg some X.1) A,?_⟩
 exact aZ (aD [10] A) (aK (aU A))
 intro vf E e
 have X:=e 2 V
 have e4:=e 4 V
 have e5:=e 5 V
 refine Or.inl ⟨cC (congrArg some X.1) A,?_⟩
 exact bC (aX 80 e4.1 (aX 81 e5.1 (aA _))) z9 (aK (cV 1 A A A A (aE Y)))
 intro vf E e
 have X:=e 2 V
 have e6:=e 6 V
 refine Or.inl ⟨cC (congrArg some X.1) A,?_⟩
 exact bC (aX 82 e6.1 (aA _)) z9 (aK (lD A A A (aE Y)))
 intro vf E e
 have X:=e 2 V
 refine Or.inl ⟨cC (congrArg some X.1) A,?_⟩
 exact aZ (aD [10] A) (aK (aU A))
 intro vf E e
 have X:=e 2 V
 have e8:=e 8 V
 refine Or.inl ⟨cC (congrArg some X.1) A,?_⟩
 exact aZ (aX 84 e8.1 (aA _)) (aK (nK A A A))
 intro vf E e
 have X:=e 2 V
 have e7:=e 7 V
 have e9:=e 9 V
 refine Or.inl ⟨cC (congrArg some X.1) A,?_⟩
 exact bC (aX 83 e7.1 (aX 85 e9.1 (aA _))) z9 (dM (aF A A (fun w Z=>aI (hH (cS _ _ _ w)))) (fun _ _ h=>⟨h.1.trans (congrArg Value.bool a2),h.2⟩))
 intro vf E e
 have X:=e 2 V
 have az:=e 10 V
 refine Or.inl ⟨cC (congrArg some X.1) A,?_⟩
 exact aZ (aX 86 az.1 (aA _)) (aK (aU A))
 intro vf E e
 have X:=e 2 V
 have b0:=e 11 V
 refine Or.inl ⟨cC (congrArg some X.1) A,?_⟩
 exact aZ (aX 87 b0.1 (aA _)) (aK (aU A))
 intro vf E e
 have B:=e 12 V
 refine Or.inl ⟨cC (congrArg some B.1) A,?_⟩
 exact bC (aD [4] A) z9 (aK (aP (cs:=[jI d.W,jI d.H,jI d.T,jI d.R]) A A A A A (aM 2 A 0 A)))
 intro vf E e
 have B:=e 12 V
 refine Or.inl ⟨cC (congrArg some B.1) A,?_⟩
 exact aZ (aD [11] A) (aK (aU A))
 intro vf E e
 have B:=e 12 V
 have b3:=e 13 V
 have b4:=e 14 V
 refine Or.inl ⟨cC (congrArg some B.1) A,?_⟩
 exact bC (aX 89 b3.1 (aX 90 b4.1 (aA _))) z9 (aF A A (fun w Z=>nJ d _ w))
 intro vf E e
 have B:=e 12 V
 refine Or.inl ⟨cC (congrArg some B.1) A,?_⟩
 exact aZ (aD [7] A) (aK (fY 0 A A A))
 intro vf E e
 have B:=e 12 V
 have b5:=e 16 V
 refine Or.inl ⟨cC (congrArg some B.1) A,?_⟩
 exact bC (aX 92 b5.1 (aA _)) z9 (aK (bJ A A A (bA 1 A A)))
 intro vf E e
 have B:=e 12 V
 refine Or.inl ⟨cC (congrArg some B.1) A,?_⟩
 exact aZ (aD [7] A) (aK (fY 1 A A A))
 intro vf E e
 have B:=e 12 V
 have b6:=e 18 V
 refine Or.inl ⟨cC (congrArg some B.1) A,?_⟩
 exact bC (aX 94 b6.1 (aA _)) z9 (aK (bJ A A A (bA 1 A A)))
 intro vf E e
 have B:=e 12 V
 refine Or.inl ⟨cC (congrArg some B.1) A,?_⟩
 exact aZ (aD [10] A) (aK (aU A))
 intro vf E e
 have B:=e 12 V
 have b7:=e 19 V
 have b8:=e 20 V
 refine Or.inl ⟨cC (congrArg some B.1) A,?_⟩
 exact bC (aX 95 b7.1 (aX 96 b8.1 (aA _))) z9 (aK (cV 1 A A A A (aE Y)))
 intro vf E e
 have B:=e 12 V
 have b9:=e 21 V
 refine Or.inl ⟨cC (congrArg some B.1) A,?_⟩
 exact bC (aX 97 b9.1 (aA _)) z9 (aK (lD A A A (aE Y)))
 intro vf E e
 have B:=e 12 V
 have ba:=e 17 V
 have bb:=e 22 V
 refine Or.inl ⟨cC (congrArg some B.1) A,?_⟩
 exact bC (aX 93 ba.1 (aX 98 bb.1 (aA _))) z9 (aK (cV 1 A A A A (aE D)))
 intro vf E e
 have B:=e 12 V
 have bc:=e 23 V
 refine Or.inl ⟨cC (congrArg some B.1) A,?_⟩
 exact bC (aX 99 bc.1 (aA _)) z9 (aK (lP A A A (aE D)))
 intro vf E e
 have B:=e 12 V
 obtain⟨ai,M⟩:=dU (vf 15)
 obtain⟨aj,U⟩:=dU (E 15)
 have a0:=e 15 V
 rw[M,U] at a0
 subst a0
 have ak:=e 24 V
 refine Or.inl ⟨cC (congrArg some B.1) A,?_⟩
 exact bQ (aX 91 M (aX 100 ak.1 (aA _))) (by simp only[U,M,B.2,ak.2,fS]<;>rfl) (aF A A (fun w Z=>aI (lS (srcI d (r.ns.getD k 0)) (r.ns.getD ((r.fs.getD k 0).toNat) 0) _ w ((aB 0 A) w Z) (by first|omega|simp))))
 intro vf E e
 have B:=e 12 V
 obtain⟨ai,M⟩:=dU (vf 15)
 obtain⟨aj,U⟩:=dU (E 15)
 have a0:=e 15 V
 rw[M,U] at a0
 subst a0
 have al:=e 25 V
 refine Or.inl ⟨cC (congrArg some B.1) A,?_⟩
 exact bQ (aX 101 al.1 (aA _)) (by simp only[U,M,B.2,al.2,fS]<;>rfl) (aK (aU A))
 intro vf E e
 have X:=e 2 V
 have B:=e 12 V
 have bd:=e 26 V
 refine Or.inl ⟨cC (congrArg some X.1) A,?_⟩
 exact aZ (aX 88 B.1 (aX 102 bd.1 (aA _))) (aK (aU A))
 intro vf E e
 have X:=e 2 V
 have be:=e 27 V
 exact fG A (aX 78 X.1 (aX 103 be.1 (aA _))) (aK (aU A))
 intro vf E e
 obtain⟨ai,M⟩:=dU (vf 15)
 obtain⟨aj,U⟩:=dU (E 15)
 have a0:=e 15 V
 rw[M,U] at a0
 subst a0
 have bf:=e 28 V
 have q0:=e 0 V
 have q1:=e 1 V
 have q2:=e 2 V
 have q3:=e 3 V
 have q4:=e 4 V
 have q5:=e 5 V
 have q6:=e 6 V
 have q7:=e 7 V
 have q8:=e 8 V
 have q9:=e 9 V
 have bg:=e 10 V
 have bh:=e 11 V
 have bi:=e 12 V
 have bj:=e 13 V
 have bk:=e 14 V
 have bl:=e 16 V
 have bm:=e 17 V
 have bn:=e 18 V
 have bo:=e 19 V
 have bp:=e 20 V
 have bq:=e 21 V
 have br:=e 22 V
 have bs:=e 23 V
 have bt:=e 24 V
 have bu:=e 25 V
 have bv:=e 26 V
 have bw:=e 27 V
 have bx:=e 28 V
 refine cL (bE [73,61,60,59,58,55,11,10,9,8,7,4,3,2,1,0] _ (aX 104 bf.1 (aA _)) A) (by simp only[U,M,q0.2,q1.2,q2.2,q3.2,q4.2,q5.2,q6.2,q7.2,q8.2,q9.2,bg.2,bh.2,bi.2,bj.2,bk.2,bl.2,bm.2,bn.2,bo.2,bp.2,bq.2,br.2,bs.2,bt.2,bu.2,bv.2,bw.2,bx.2,fS]<;>rfl) ?_
 simp only[drop_succ_cons,drop_zero]
 refine go ?_
 refine fO A (fun ac=>go ?_) (fun ac=>go ?_)
 have am:(hasB (srcI d (r.ns.getD k 0)) (r.ns.getD ((r.fs.getD k 0).toNat) 0))=false:=by simpa using ac
 exact bM (post:=[]) A A (eA [] A) ⟨false,A,A,fun h=>by cases h⟩
 have am:(hasB (srcI d (r.ns.getD k 0)) (r.ns.getD ((r.fs.getD k 0).toNat) 0))=true:=by simpa using ac
 refine cM A (aF A A (fun w Z=>aI (qX d (r.ns.getD k 0) w))) (bD (fun bz=>go ?_) (fun bz=>go ?_))
 refine cM A (aF A A (fun w Z=>aI (lS qs (r.ns.getD k 0) _ w ((aE hq) w Z) (by first|omega|simp)))) ?_
 refine bD (fun c0=>go ?_) (fun c0=>go ?_)
 exact bO (k+1) ((r.ns.getD k 0)::sn) ⟨O,by rw[a3];exact nP _ O,TrP.one a4 (.inr (Ee O O I))⟩ O (bV rfl) (eA [1,0,0] rfl)
 exact bM (post:=[]) A A (eA [] A) ⟨false,A,A,fun h=>by cases h⟩
 exact bO (k+1) ((r.ns.getD k 0)::sn) ⟨O,by rw[a3];exact nP _ O,TrP.one a4 (.inr (Ee O O I))⟩ O (bV rfl) (eA [1,0,0] rfl)
 refine bL 29 [[],[0],[1],[2],[2,3],[2],[2,4,5],[2,6],[2],[2,8],[2,7,9],[2,10],[2,11],[12],[12],[12],[12],[12],[12],[12],[12],[12],[12],[12],[12],[12],[12],[2,12,26],[2,27]] [76,77,78,79,80,81,82,83,84,85,86,87,88,89,90,91,92,93,94,95,96,97,98,99,100,101,102,103,104] [jI (k:Int),.bool true,.bool true,.pointer (some ⟨G,0+1,none⟩),r.fv,jI (k:Int),elP r.fv ((k:Int).toNat*1),jI (r.fs.getD k 0),jI (k:Int),jI ((k:Int)-1),.bool false,.bool true,.bool true,undef,undef,undef,undef,undef,undef,undef,undef,undef,undef,undef,undef,undef,undef,.bool true,.bool true] F A ?_ ?_
 exact⟨aJ,aJ,aJ,aJ,aJ,aJ,aJ,aJ,aJ,aJ,.inl ⟨A,iP (aF A A (fun w Z=>aI (hH (cS _ _ _ w)))) a2⟩,aJ,aJ,aJ,aJ,aJ,aJ,aJ,aJ,aJ,aJ,aJ,aJ,aJ,aJ,aJ,aJ,aJ,aJ,trivial⟩
 simp only[drop_succ_cons,drop_zero]
 refine go ?_
 exact bM (post:=[]) A A (eA [] A) ⟨false,A,A,fun h=>by cases h⟩
 have ab:¬(0<(k:Int)):=of_decide_eq_false a1
 refine bL 29 [[],[0],[1],[2],[2],[2],[2],[2],[2],[2],[2],[2],[2],[12],[12],[12],[12],[12],[12],[12],[12],[12],[12],[12],[12],[12],[12],[2],[2,27]] [76,77,78,79,80,81,82,83,84,85,86,87,88,89,90,91,92,93,94,95,96,97,98,99,100,101,102,103,104] [jI (k:Int),.bool false,.bool false,undef,undef,undef,undef,undef,undef,undef,undef,undef,undef,undef,undef,undef,undef,undef,undef,undef,undef,undef,undef,undef,undef,undef,undef,undef,.bool false] F A ?_ ?_
 exact⟨aJ,aJ,aJ,aJ,aJ,aJ,aJ,aJ,aJ,aJ,aJ,aJ,aJ,aJ,aJ,aJ,aJ,aJ,aJ,aJ,aJ,aJ,aJ,aJ,aJ,aJ,aJ,aJ,aJ,trivial⟩
 simp only[drop_succ_cons,drop_zero]
 refine go ?_
 refine cM A (aF A A (fun w Z=>aI (qX d (r.ns.getD k 0) w))) (bD (fun c1=>go ?_) (fun c1=>go ?_))
 refine cM A (aF A A (fun w Z=>aI (lS qs (r.ns.getD k 0) _ w ((aE hq) w Z) (by first|omega|simp)))) ?_
 refine bD (fun c2=>go ?_) (fun c2=>go ?_)
 exact bO (k+1) ((r.ns.getD k 0)::sn) ⟨O,by rw[a3];exact nP _ O,TrP.one a4 (.inl (by rw[show k=0 by omega];omega))⟩ O (bV rfl) (cZ rfl)
 exact bM (post:=[]) A A (eA [] A) ⟨false,A,A,fun h=>by cases h⟩
 exact bO (k+1) ((r.ns.getD k 0)::sn) ⟨O,by rw[a3];exact nP _ O,TrP.one a4 (.inl (by rw[show k=0 by omega];omega))⟩ O (bV rfl) (cZ rfl)
 exact bM (post:=[]) A A (eA [] A) ⟨false,A,A,fun h=>by cases h⟩
 have c3:sn=r.ns.reverse:=by rw[a3,show k=r.ns.length by omega,take_length]
 refine lC (α:=Nat) [0,1,2,3,4,7,8,9,55,58,59,60,61,115,116] A (fun j=>[setE aa sn,boxE G #[r.nv,r.fv] 36,boxE b1 #[jI d.W,jI d.H,jI d.T,jI d.R] 25]) (fun j=>[(117,jI (j:Int))]) (fun j=>j≤qs.length∧∀i,i<j→qs.getD i 0∈r.ns) (fun j=>qs.length-j) 0 ⟨O,fun i hi=>absurd hi O⟩ (bV A) (cZ A) fun j an=>go ?_
 obtain⟨hj,ao⟩:=an
 refine aW A A A A A A (fun c4=>go ?_) (fun c4=>go ?_)
 refine aN A (cV 1 A A A A (aE hq)) (aN A (lD A A A (aE hq)) (go ?_))
 obtain⟨ca,cb⟩:=ap (qs.getD j 0) (dV O)
 refine aN A (qD (i:=0) (S:=sn) (k:=qs.getD j 0) A Tryz.underlying70 A A (lL O) A) ?_
 refine bD (fun c5=>go ?_) (fun c5=>go ?_)
 exact dR (j+1) ⟨O,fun i hi=>by by_cases c6:i=j;(subst c6;exact Kr c3 I);exact ao i O⟩ O (bV A) (cZ A)
 exact bM (post:=[]) A A (eA [] A) ⟨false,A,A,fun h=>by cases h⟩
 exact bM (post:=[]) A A (eA [] A) ⟨true,A,A,fun _=>⟨fun i hi=>a4 i O,fun q hq=>by obtain⟨i,hi,rfl⟩:=iF hq;exact ao i O⟩⟩
 refine bL 42 [[],[0],[1],[2],[3],[4],[4,5],[4,6],[4],[4,8],[4,7,9],[4,10],[11],[12],[12,13],[12,14],[12],[12,16],[12,17],[12,15,18],[12,19],[20],[21],[21,22],[21,23],[21,24],[21],[21,25,26],[21,27],[28],[29],[29],[29,30,31],[29,32],[29,33],[34],[35],[35],[35],[35],[35],[35,40]] [14,15,16,17,18,19,20,21,22,23,24,25,26,27,28,29,30,31,32,33,34,35,36,37,38,39,40,41,42,43,44,45,46,47,48,49,50,51,52,53,54,55] [.pointer (some ⟨G,0+0,none⟩),r.nv,jI (r.ns.length:Int),.bool false,.bool false,.pointer (some ⟨G,0+0,none⟩),r.nv,jI (r.ns.length:Int),.agg #[jI d.W,jI d.H,jI d.T,jI d.R],jI (allI d),.bool false,.bool false,.bool false,.pointer (some ⟨G,0+1,none⟩),r.fv,jI (r.fs.length:Int),.pointer (some ⟨G,0+0,none⟩),r.nv,jI (r.ns.length:Int),.bool false,.bool false,.bool false,.pointer (some ⟨G,0+0,none⟩),r.nv,elP r.nv ((0:Int).toNat*1),jI (r.ns.getD 0 0),jI s0,.bool false,.bool false,.bool false,.agg #[jI d.W,jI d.H,jI d.T,jI d.R],jI s0,.bool false,.bool true,.bool true,.bool true,undef,undef,undef,undef,undef,.bool true] F A ?_ ?_
 exact⟨aJ,aJ,fL A (eV A A A (aE D)) A,aJ,aJ,aJ,aJ,fL A (eV A A A (aE D)) A,aJ,.inl ⟨A,aF A A (fun w Z=>aI (gY d hd w))⟩,aJ,aJ,aJ,aJ,aJ,fL A (eV A A A (aE Y)) A,aJ,aJ,fL A (eV A A A (aE D)) A,aJ,aJ,aJ,aJ,aJ,aJ,fL A (aL (u:=jI (r.ns.getD 0 0)) A A A (aE D) (cJ (show _<r.ns.length by omega))) A,aJ,aJ,aJ,aJ,aJ,aJ,.inl ⟨A,iP (aF A A (fun w Z=>aI (oX d s0 w))) a9⟩,aJ,aJ,aJ,aJ,aJ,aJ,aJ,aJ,aJ,trivial⟩
 simp only[drop_succ_cons,drop_zero]
 refine go ?_
 exact bM (post:=[]) A A (eA [] A) ⟨false,A,A,fun h=>by cases h⟩
open Go.RowKit
def boolOf:Value→Bool
  | .bool b=>b
  | _=>false
structure RsPre (d:Dev) (pl:List Int) (cs:List Cn) (rs:List Rt) (i:Nat) (sn:List Int):Prop where
  tree:∀j,j<i→TrP d (srcN d pl (cs.getD j cn0)) (rs.getD j rt0).ns
  snk:∀j,j<i→∀q∈snkG d pl (cs.getD j cn0).ks,q∈(rs.getD j rt0).ns
  seen:∀j,j<i→∀x∈(rs.getD j rt0).ns,x∈sn
  apart:∀j k,j<k→k<i→∀x∈(rs.getD j rt0).ns,¬x∈(rs.getD k rt0).ns
theorem RsPre.nil (d:Dev) (pl:List Int) (cs:List Cn) (rs:List Rt):RsPre d pl cs rs 0 []:=⟨fun j e=>O,fun j e=>O,fun j e=>O,fun j k _ h=>O⟩
theorem RsPre.next {d:Dev}{pl:List Int}{cs:List Cn}{rs:List Rt}{i:Nat}{sn tn:List Int}(h:RsPre d pl cs rs i sn) (h1:TrP d (srcN d pl (cs.getD i cn0)) (rs.getD i rt0).ns∧∀q∈snkG d pl (cs.getD i cn0).ks,q∈(rs.getD i rt0).ns) (h2:∀x∈sn,x∈tn) {m:Nat}(hm:m=(rs.getD i rt0).ns.length) (h3:∀q,q<m→(rs.getD i rt0).ns.getD q 0∈tn∧¬(rs.getD i rt0).ns.getD q 0∈sn):RsPre d pl cs rs (i+1) tn:=by
  subst hm
  refine⟨fun j hj=>?_,fun j hj=>?_,fun j hj x hx=>?_,fun j k hjk hk x hx hxk=>?_⟩
  · by_cases e : j = i
    · subst e;exact h1.1
    · exact h.tree j (by omega)
  · by_cases e : j = i
    · subst e;exact h1.2
    · exact h.snk j (by omega)
  · by_cases e : j = i
    · subst e;obtain⟨q,hq,rfl⟩:=iF hx;exact(h3 q hq).1
    · exact h2 x (h.seen j (by omega) x hx)
  · by_cases e : k = i
    · subst e;obtain⟨q,hq,e2⟩:=iF hxk;have:=(h3 q hq).2;rw[e2] at this;exact this (h.seen j hjk x hx)
    · exact h.apart j k hjk (by omega) x hx hxk
theorem nU {rs:List Rt}{i:Nat}(h:i<rs.length):(rs.map Rt.ns).getD i []=(rs.getD i rt0).ns:=by
  rw[getD_eq_getElem?_getD,getD_eq_getElem?_getD,List.getElem?_map,List.getElem?_eq_getElem h];rfl
theorem RsPre.all {d:Dev}{pl:List Int}{cs:List Cn}{rs:List Rt}{i:Nat}{D:List Int}(h:RsPre d pl cs rs i D) (E:rs.length=cs.length) (e:i=cs.length):RsApart d pl cs (rs.map Rt.ns):=by
  subst e
  refine⟨by rw[length_map];exact E,fun i e=>?_,fun i e=>?_,fun i j B G=>?_⟩
  · rw[nU O];exact h.tree i e
  · rw[nU O];exact h.snk i e
  · rw[length_map] at G;rw[nU O,nU O];exact h.apart i j B O
structure SnOk (sn:List Int):Prop where
  nd:sn.Nodup
  rg:∀x∈sn,0≤x∧x<1000000
theorem SnOk.len {e:List Int}(h:SnOk e):e.length≤1000000:=Ad (N:=1000000) h.nd (fun x B=>by have:=h.rg x B;omega)
theorem SnOk.cons {B:List Int}{x:Int}(h:SnOk B) (D:¬x∈B) (E:0≤x∧x<1000000):SnOk (x::B):=⟨List.nodup_cons.2 ⟨D,h.nd⟩,fun y G=>(List.mem_cons.1 G).elim (fun e=>by rw[e];exact E) (h.rg y)⟩
theorem of_nb {b:Bool}(h:(!b)=false):b=true:=by simpa using h
theorem Hs {e:List Int}{x:Int}(h:List.contains e x=false):¬x∈e:=fun q=>by rw[List.contains_iff_mem.2 q] at h;cases h
theorem uH (n b p:Int) (w:World) (D : -1000≤n∧n≤1000000) :
   Calls Tryz.prog 67 #[.int .i64 n,.agg #[.int .i64 b,.int .i64 p]] w (Ans w (.bool (inR b 0 (n-1)&&inR p 0 4))):=by
 refine aY (N:=15) (args:=[jI n,.agg #[jI b,jI p]]) Tryz.func67 A A (dW ?_)
 refine cU A (cE A A) fun E=>go ?_
 refine cM A (aF A A (fun w e=>aI (hH (cS _ _ _ w)))) (bD (fun h=>go ?_) (fun h=>go ?_))
 refine cM A (aF A A (fun w e=>aI (hH (cS _ _ _ w)))) (bD (fun B=>go ?_) (fun B=>go ?_))
 exact aT A A (by simp_all)
 exact aT A A (by simp_all)
 exact aT A A (by simp_all)
theorem rK (n:Int) (cs:List Cn) (v:Value) (w:World) (hn : -1000≤n∧n≤1000000) (h:RdsCn w v cs) (hl:cs.length≤100000) (B:∀c∈cs,CnB c) :
   Calls Tryz.prog 35 #[.int .i64 n,v] w (Ret w (fun K post=>∃M:Bool,K=.bool M∧post=[])):=by
 refine aY (N:=48) (args:=[jI n,v]) Tryz.func35 A A (cF 1 A (aG (aG (cN 1 A ?_))))
 refine cM A (aF A A (fun w e=>aI (hH (cS _ _ _ w)))) (bD (fun U=>go ?_) (fun U=>go ?_))
 refine aN A (eV A A A (aE h.row)) ?_
 refine fJ A A A A A A (fun X=>go ?_) (fun X=>go ?_)
 exact bM (post:=[]) A A (.slnil) ⟨_,A,A⟩
 refine aN A (eV A A A (aE h.row)) (go ?_)
 refine lC (α:=Nat) [0,1,4,16,17,18] A (fun i=>[]) (fun i=>[(19,jI (i:Int))]) (fun i=>i≤cs.length) (fun i=>cs.length-i) 0 O (bV A) (.slnil) fun i D=>go ?_
 have hi:=D
 refine aW A A A A A A (fun Y=>go ?_) (fun Y=>go ?_)
 refine aN A (cV 4 A A A A (aE h.row)) ?_
 refine aN A (cO (us:=[jI ((cs.getD i cn0).nd),jI ((cs.getD i cn0).sb),jI ((cs.getD i cn0).sp),(cs.getD i cn0).kv]) A A A A (aE h.row) O A (dQ cnC 4 (fun _=>A) cs cn0 (show i<_ by omega) A)) (cU A (bY (z:=.agg #[jI 0,jI 0,jI 0,.slice none 0 0]) A A) fun Z=>?_)
 refine cA (cs':=#[jI ((cs.getD i cn0).nd),jI ((cs.getD i cn0).sb),jI ((cs.getD i cn0).sp),(cs.getD i cn0).kv]) (i:=0) (off:=0) (us:=[jI ((cs.getD i cn0).nd),jI ((cs.getD i cn0).sb),jI ((cs.getD i cn0).sp),(cs.getD i cn0).kv]) A A A A A A A (aC A (aC A (aC A (aC (h.at (k:=i) O).one bH)))) A A A (go ?_)
 have J:=(B _ (eN (d:=cn0) (show i<cs.length by omega))).kl
 refine aN A (eV A A A (fun w e=>(h.at (k:=i) O).below e.bel)) (cM A (aF A A (fun w e=>aI (hH (cS _ _ _ w)))) ?_)
 refine bD (fun h6=>go ?_) (fun h6=>go ?_)
 refine aN A (aP (cs:=[jI ((cs.getD i cn0).sb),jI ((cs.getD i cn0).sp)]) A A A A A (aM 0 A 1 A)) ?_
 refine cM A (aF A A (fun w e=>aI (uH n ((cs.getD i cn0).sb) ((cs.getD i cn0).sp) w O))) (bD (fun h7=>go ?_) (fun h7=>go ?_))
 refine aN A (eV A A A (fun w e=>(h.at (k:=i) O).below e.bel)) (go ?_)
 refine lC (α:=Nat) [0,1,4,6,16,17,18,19,20,34,36,37] A (fun j=>[boxE Z #[jI ((cs.getD i cn0).nd),jI ((cs.getD i cn0).sb),jI ((cs.getD i cn0).sp),(cs.getD i cn0).kv] 44]) (fun j=>[(38,jI (j:Int))]) (fun j=>j≤(cs.getD i cn0).ks.length) (fun j=>(cs.getD i cn0).ks.length-j) 0 O (bV A) (cZ A) fun j E=>go ?_
 have hj:=E
 refine aW A A A A A A (fun h9=>go ?_) (fun h9=>go ?_)
 refine aN A (cV 2 A A A A (fun w e=>(h.at (k:=i) O).below e.bel)) (aN A (cO (us:=[jI ((((cs.getD i cn0).ks).getD j pn0).b),jI ((((cs.getD i cn0).ks).getD j pn0).p)]) A A A A (fun w e=>(h.at (k:=i) O).below e.bel) O A (dQ pnC 2 (fun _=>A) ((cs.getD i cn0).ks) pn0 (show j<_ by omega) A)) ?_)
 refine cU A (bY (z:=.agg #[jI 0,jI 0]) A A) fun a0=>?_
 refine cA (cs':=#[jI ((((cs.getD i cn0).ks).getD j pn0).b),jI ((((cs.getD i cn0).ks).getD j pn0).p)]) (i:=0) (off:=0) (us:=[jI ((((cs.getD i cn0).ks).getD j pn0).b),jI ((((cs.getD i cn0).ks).getD j pn0).p)]) A A A A A A A (aC A (aC A bH)) A A A (go ?_)
 refine cM A (aF A A (fun w e=>aI (uH n ((((cs.getD i cn0).ks).getD j pn0).b) ((((cs.getD i cn0).ks).getD j pn0).p) w O))) (bD (fun G=>go ?_) (fun G=>go ?_))
 exact dR (j+1) O O (bV A) (eA [1] A)
 exact bM (post:=[]) A A (eA [] A) ⟨_,A,A⟩
 exact dR (i+1) O O (bV A) (eA [] A)
 exact bM (post:=[]) A A (eA [] A) ⟨_,A,A⟩
 exact bM (post:=[]) A A (eA [] A) ⟨_,A,A⟩
 exact bM (post:=[]) A A (.slnil) ⟨_,A,A⟩
 exact bM (post:=[]) A A (.slnil) ⟨_,A,A⟩
theorem wF (d:Dev) (pl:List Int) (pv:Value) (cs:List Cn) (cv:Value) (rs:List Rt) (rv:Value) (w:World) (hd:devB d=true) (aa:RdsW w pv 1 pl.length (pl.map (Value.int .i64))) (ab:pl.length≤64) (hc:RdsCn w cv cs) (b6:cs.length≤1000) (ac:∀c∈cs,CnB c) (Z:RdsRt w rv rs) (ap:∀r∈rs,(∀x∈r.ns,0≤x∧x<1000000)∧r.ns.length≤1000000∧r.fs.length≤1000000) (b7:rs.length≤100000) :
   Calls Tryz.prog 16 #[.agg #[.int .i64 d.W,.int .i64 d.H,.int .i64 d.T,.int .i64 d.R],pv,cv,rv] w (Ret w (fun v' post=>∃b_:Bool,v'=.bool b_∧post=[]∧(b_=true→RsApart d pl cs (rs.map Rt.ns)))):=by
 obtain⟨b8,b9⟩:=eM hd
 refine aY (N:=72) (args:=[.agg #[jI d.W,jI d.H,jI d.T,jI d.R],pv,cv,rv]) Tryz.func16 A A (dW ?_)
 refine cU A (cE A A) fun b1=>go ?_
 refine fF A A A (aF A A (fun w M=>rK (pl.length:Int) cs _ w O (hc.below M.bel) O ac)) fun v2 p3 R4=>?_
 obtain⟨bc,rfl,rfl⟩:=R4
 refine go ?_
 refine bD (fun h5=>go ?_) (fun h5=>go ?_)
 exact bM (post:=[]) A A (eA [] A) ⟨false,A,A,fun h=>by cases h⟩
 refine aN A (eV A A A (aE Z.row)) (go ?_)
 refine aN A (eV A A A (aE hc.row)) ?_
 refine jY A A A A A A (fun h6=>go ?_) (fun h6=>go ?_)
 exact bM (post:=[]) A A (eA [] A) ⟨false,A,A,fun h=>by cases h⟩
 refine fF A A A (pJ A) fun v7 p8 R9=>?_
 obtain⟨m9,rfl,rfl⟩:=R9
 refine go ?_
 refine aN A (eV A A A (aE hc.row)) (go ?_)
 refine iG (α:=Nat) (β:=List Int) [0,1,2,3,4,8,9,26,28,29] A (fun i sn=>[setE m9 sn,boxE b1 #[jI d.W,jI d.H,jI d.T,jI d.R] 25]) (fun i sn=>[(30,jI (i:Int))]) (fun i sn=>i≤cs.length∧RsPre d pl cs rs i sn∧SnOk sn) (fun i sn=>cs.length-i) 0 [] ⟨Nat.zero_le _,RsPre.nil _ _ _ _,⟨List.nodup_nil,fun x hx=>by cases hx⟩⟩ (bV A) (cZ A) fun i sn ad=>go ?_
 obtain⟨hi,a6,ae⟩:=ad
 refine aW A A A A A A (fun aq=>go ?_) (fun aq=>go ?_)
 refine aN A (cV 4 A A A A (aE hc.row)) ?_
 refine aN A (cO (us:=[jI ((cs.getD i cn0).nd),jI ((cs.getD i cn0).sb),jI ((cs.getD i cn0).sp),(cs.getD i cn0).kv]) A A A A (aE hc.row) O A (dQ cnC 4 (fun _=>A) cs cn0 (show i<_ by omega) A)) (cU A (bY (z:=.agg #[jI 0,jI 0,jI 0,.slice none 0 0]) A A) fun af=>go ?_)
 refine cA (cs':=#[jI ((cs.getD i cn0).nd),jI ((cs.getD i cn0).sb),jI ((cs.getD i cn0).sp),(cs.getD i cn0).kv]) (i:=0) (off:=0) (us:=[jI ((cs.getD i cn0).nd),jI ((cs.getD i cn0).sb),jI ((cs.getD i cn0).sp),(cs.getD i cn0).kv]) A A A A A A A (aC A (aC A (aC A (aC (hc.at (k:=i) O).one bH)))) A A A (go ?_)
 have a0:=ac _ (eN (d:=cn0) (show i<cs.length by omega))
 have a1:=ap _ (eN (d:=rt0) (show i<rs.length by omega))
 have b2:=mN d pl (cs.getD i cn0).ks
 have b3:=a0.kl
 have ag:∀x∈(snkG d pl (cs.getD i cn0).ks),0≤x∧x<1000000:=fun x hx=>by have:=nN hx;omega
 have b4:=a1.2.1
 refine fF A A A (aF A A (fun w M=>lX d pl _ (cs.getD i cn0) w (aa.below M.bel) ab ((hc.at (k:=i) O).below M.bel) a0.kl a0.kp)) fun a2 ba ar=>?_
 obtain⟨rfl,a7⟩:=ar
 refine go ?_
 rcases eq_false_or_eq_true (decide ((snkG d pl (cs.getD i cn0).ks).length=0)) with a3|a3
 refine bL 16 [[],[0],[1],[2],[2],[2],[2],[2],[2],[2],[2],[2],[2],[2],[2],[2,14]] [39,40,41,42,43,44,45,46,47,48,49,50,51,52,53,54] [a2,.bool true,.bool true,undef,undef,undef,undef,undef,undef,undef,undef,undef,undef,undef,undef,.bool true] F A ?_ ?_
 exact⟨aJ,.inl ⟨A,zV (lN A z8 A A (aB 0 A) a7) a3⟩,aJ,aJ,aJ,aJ,aJ,aJ,aJ,aJ,aJ,aJ,aJ,aJ,aJ,aJ,trivial⟩
 simp only[drop_succ_cons,drop_zero]
 refine go ?_
 exact bM (post:=[]) A A (eA [] A) ⟨false,A,A,fun h=>by cases h⟩
 refine eI A 16 [0,1,2,3,4,5,6,7,8,9,10,11,12,13,14,15] (List.take 16 _) (List.drop 16 _) [[],[0],[1],[2],[2],[2],[2],[2,4,5,6],[2],[2],[2],[2,9,10],[2,11],[2,3,7,8,12],[2,13],[2,13,14]] [39,40,41,42,43,44,45,46,47,48,49,50,51,52,53,54] (fun i_ ah U X=>match i_ with|0=>U=a2∧X=[]|1=>U=.bool false∧X=[]|2=>U=.bool false∧X=[]|3=>U=.agg #[jI d.W,jI d.H,jI d.T,jI d.R]∧X=[]|4=>U=.agg #[jI d.W,jI d.H,jI d.T,jI d.R]∧X=[]|5=>U=pv∧X=[]|6=>U=.agg #[jI ((cs.getD i cn0).nd),jI ((cs.getD i cn0).sb),jI ((cs.getD i cn0).sp),(cs.getD i cn0).kv]∧X=[]|7=>U=jI (srcN d pl (cs.getD i cn0))∧X=[]|8=>U=a2∧X=[]|9=>U=rv∧X=[]|10=>U=jI (i:Int)∧X=[]|11=>U=elP rv ((i:Int).toNat*2)∧X=[]|12=>U=.agg #[(rs.getD i rt0).nv,(rs.getD i rt0).fv]∧X=[]|13=>(fun v' post=>∃b_:Bool,v'=.bool b_∧post=[]∧(b_=true→TrP d (srcN d pl (cs.getD i cn0)) (rs.getD i rt0).ns∧∀q∈(snkG d pl (cs.getD i cn0).ks),q∈(rs.getD i rt0).ns)) U X|14=>U=.bool (!(boolOf (gV9 ah 1)))∧X=[]|15=>U=.bool (!(boolOf (gV9 ah 1)))∧X=[]|_=>True) (take_append_drop 16 _).symm F F A A ?_ ?_
 refine⟨?_,?_,?_,?_,?_,?_,?_,?_,?_,?_,?_,?_,?_,?_,?_,?_,trivial⟩
 intro vf G B
 exact fG A (aD [12] A) (aK (aU A))
 intro vf G B
 have e0:=B 0 V
 exact eH A (aX 39 e0.1 (aA _)) (dM (aK (lN A z8 A A (aB 0 A) a7)) (fun _ _ h=>⟨h.1.trans (congrArg Value.bool a3),h.2⟩))
 intro vf G B
 have e1:=B 1 V
 exact fG A (aX 40 e1.1 (aA _)) (aK (aU A))
 intro vf G B
 have E:=B 2 V
 refine Or.inl ⟨cC (congrArg some E.1) A,?_⟩
 exact bC (aD [4] A) z9 (aK (aP (cs:=[jI d.W,jI d.H,jI d.T,jI d.R]) A A A A A (aM 3 A 0 A)))
 intro vf G B
 have E:=B 2 V
 refine Or.inl ⟨cC (congrArg some E.1) A,?_⟩
 exact bC (aD [4] A) z9 (aK (aP (cs:=[jI d.W,jI d.H,jI d.T,jI d.R]) A A A A A (aM 3 A 0 A)))
 intro vf G B
 have E:=B 2 V
 refine Or.inl ⟨cC (congrArg some E.1) A,?_⟩
 exact aZ (aD [1] A) (aK (aU A))
 intro vf G B
 have E:=B 2 V
 refine Or.inl ⟨cC (congrArg some E.1) A,?_⟩
 exact bC (aD [11] A) z9 (aK (aP (cs:=[jI ((cs.getD i cn0).nd),jI ((cs.getD i cn0).sb),jI ((cs.getD i cn0).sp),(cs.getD i cn0).kv]) A A A A A (aM 1 A 0 A)))
 intro vf G B
 have E:=B 2 V
 have e4:=B 4 V
 have e5:=B 5 V
 have e6:=B 6 V
 refine Or.inl ⟨cC (congrArg some E.1) A,?_⟩
 exact bC (aX 43 e4.1 (aX 44 e5.1 (aX 45 e6.1 (aA _)))) z9 (aF A A (fun w M=>aI (lF d pl _ (cs.getD i cn0) w (aa.below M.bel) ab a0.p0 a0.p1 (hc.at (k:=i) O).one)))
 intro vf G B
 have E:=B 2 V
 refine Or.inl ⟨cC (congrArg some E.1) A,?_⟩
 exact aZ (aD [12] A) (aK (aU A))
 intro vf G B
 have E:=B 2 V
 refine Or.inl ⟨cC (congrArg some E.1) A,?_⟩
 exact aZ (aD [3] A) (aK (aU A))
 intro vf G B
 have E:=B 2 V
 refine Or.inl ⟨cC (congrArg some E.1) A,?_⟩
 exact aZ (aD [10] A) (aK (aU A))
 intro vf G B
 have E:=B 2 V
 have e9:=B 9 V
 have au:=B 10 V
 refine Or.inl ⟨cC (congrArg some E.1) A,?_⟩
 exact bC (aX 48 e9.1 (aX 49 au.1 (aA _))) z9 (aK (cV 2 A A A A (aE Z.row)))
 intro vf G B
 have E:=B 2 V
 have aw:=B 11 V
 refine Or.inl ⟨cC (congrArg some E.1) A,?_⟩
 exact bC (aX 50 aw.1 (aA _)) z9 (aK (cO (us:=[(rs.getD i rt0).nv,(rs.getD i rt0).fv]) A A A A (aE Z.row) O A (dQ Rt.cells 2 (fun _=>A) rs rt0 (show i<_ by omega) A)))
 intro vf G B
 have E:=B 2 V
 have e3:=B 3 V
 have e7:=B 7 V
 have e8:=B 8 V
 have ax:=B 12 V
 refine Or.inl ⟨cC (congrArg some E.1) A,?_⟩
 exact bC (aX 42 e3.1 (aX 46 e7.1 (aX 47 e8.1 (aX 51 ax.1 (aA _))))) z9 (aF A A (fun w M=>zE d (srcN d pl (cs.getD i cn0)) (rs.getD i rt0) (snkG d pl (cs.getD i cn0).ks) _ w hd ((Z.nat (k:=i) O).below M.bel) ((Z.fat (k:=i) O).below M.bel) ((aB 0 A) w M) O ag a1.1 a1.2.1 a1.2.2))
 intro vf G B
 have E:=B 2 V
 obtain⟨ai,D⟩:=dU (vf 13)
 obtain⟨aj,J⟩:=dU (G 13)
 have K:=B 13 V
 rw[D,J] at K
 obtain⟨br,rfl,rfl,a4⟩:=K
 refine Or.inl ⟨cC (congrArg some E.1) A,?_⟩
 exact aZ (aX 52 D (aA _)) (dM (aK (aU A)) (fun _ _ h=>⟨h.1.trans (by show _=(.bool (!(boolOf (vf 13))):Value);first|(rw[D];done)|(rw[D];rfl)),h.2⟩))
 intro vf G B
 have E:=B 2 V
 obtain⟨ai,D⟩:=dU (vf 13)
 obtain⟨aj,J⟩:=dU (G 13)
 have K:=B 13 V
 rw[D,J] at K
 obtain⟨br,rfl,rfl,a4⟩:=K
 have ak:(vf 14)=.bool (!(boolOf (vf 13)))∧(G 14)=[]:=B 14 V
 rw[D] at ak
 exact fG A (aX 41 E.1 (aX 53 ak.1 (aA _))) (dM (aK (aU A)) (fun _ _ h=>⟨h.1.trans (by show _=(.bool (!(boolOf (vf 13))):Value);first|(rw[D];done)|(rw[D];rfl)),h.2⟩))
 intro vf G B
 obtain⟨ai,D⟩:=dU (vf 13)
 obtain⟨aj,J⟩:=dU (G 13)
 have K:=B 13 V
 rw[D,J] at K
 obtain⟨br,rfl,rfl,a4⟩:=K
 have al:(vf 15)=.bool (!(boolOf (vf 13)))∧(G 15)=[]:=B 15 V
 rw[D] at al
 refine yR (bE [31,30,29,28,26,12,11,10,9,8,4,3,2,1,0] _ (aX 54 al.1 (aA _)) A) z9 ?_
 simp only[drop_succ_cons,drop_zero]
 refine go ?_
 refine fO A (fun ay=>go ?_) (fun ay=>go ?_)
 exact bM (post:=[]) A A (eA [] A) ⟨false,A,A,fun h=>by cases h⟩
 refine aN A (cV 2 A A A A (aE Z.row)) (aN A (bR (k0:=0) A A A (aE Z.row) O) ?_)
 refine aN A (aL (u:=(rs.getD i rt0).nv) A A A (aE Z.row) ((dC Rt.cells 2 (fun _=>A) rs rt0 (show i<_ by omega) V).trans A)) (aN A (eV A A A (fun w M=>(Z.nat (k:=i) O).below M.bel)) (go ?_))
 refine iG (α:=Nat) (β:=List Int) [0,1,2,3,4,8,9,10,11,12,26,28,29,30,31,54,59,60] A (fun j Y=>[rowE 3 1 a2 ((snkG d pl (cs.getD i cn0).ks).length) (mI (snkG d pl (cs.getD i cn0).ks)),boxE af #[jI ((cs.getD i cn0).nd),jI ((cs.getD i cn0).sb),jI ((cs.getD i cn0).sp),(cs.getD i cn0).kv] 44,setE m9 Y,boxE b1 #[jI d.W,jI d.H,jI d.T,jI d.R] 25]) (fun j Y=>[(61,jI (j:Int))]) (fun j Y=>j≤(rs.getD i rt0).ns.length∧(∀x∈sn,x∈Y)∧(∀q,q<j→(rs.getD i rt0).ns.getD q 0∈Y∧¬(rs.getD i rt0).ns.getD q 0∈sn)∧SnOk Y) (fun j Y=>(rs.getD i rt0).ns.length-j) 0 sn ⟨Nat.zero_le _,fun _ h=>h,fun q hq=>O,ae⟩ (bV A) (cZ A) fun j Y am=>go ?_
 obtain⟨hj,a8,a9,a5⟩:=am
 have b5:=a5.len
 refine aW A A A A A A (fun az=>go ?_) (fun az=>go ?_)
 refine aN A (cV 1 A A A A (fun w M=>(Z.nat (k:=i) O).below M.bel)) (aN A (aL (u:=jI (((rs.getD i rt0).ns).getD j 0)) A A A (fun w M=>(Z.nat (k:=i) O).below M.bel) (cJ (show _<((rs.getD i rt0).ns).length by omega))) (go ?_))
 obtain⟨an,ao⟩:=a1.1 ((rs.getD i rt0).ns.getD j 0) (dV O)
 refine aN A (qD (i:=2) (S:=Y) (k:=((rs.getD i rt0).ns).getD j 0) A Tryz.underlying70 A A (lL O) A) ?_
 refine bD (fun b0=>go ?_) (fun b0=>go ?_)
 exact bM (post:=[]) A A (eA [] A) ⟨false,A,A,fun h=>by cases h⟩
 refine pQ (i:=2) (k:=((rs.getD i rt0).ns).getD j 0) (l':=[rowE 3 1 a2 ((snkG d pl (cs.getD i cn0).ks).length) (mI (snkG d pl (cs.getD i cn0).ks)),boxE af #[jI ((cs.getD i cn0).nd),jI ((cs.getD i cn0).sb),jI ((cs.getD i cn0).sp),(cs.getD i cn0).kv] 44,setE m9 ((((rs.getD i rt0).ns).getD j 0)::Y),boxE b1 #[jI d.W,jI d.H,jI d.T,jI d.R] 25]) A A A Tryz.underlying70 A A A (lL O) A (by first|omega|(simp;omega)) A (go ?_)
 exact bO (j+1) ((((rs.getD i rt0).ns).getD j 0)::Y) ⟨O,fun x hx=>fW (a8 x hx),fun q hq=>by
   by_cases e:q=j
   · subst e;exact⟨eG,fun h9=>Hs I (a8 _ h9)⟩
   · exact⟨fW (a9 q O).1,(a9 q O).2⟩,a5.cons (Hs I) ⟨an,ao⟩⟩ O (bV rfl) (cZ rfl)
 exact bO (i+1) Y ⟨O,a6.next (a4 (of_nb (b:=br) I)) a8 (m:=j) O a9,a5⟩ O (bV A) (eA [2,0] A)
 exact bM (post:=[]) A A (eA [] A) ⟨true,A,A,fun _=>a6.all O O⟩
def tpR (k:Nat) (v:Value):Value:=match v with | .tuple xs=>xs.getD k undef|_=>undef
def agR (k:Nat) (v:Value):Value:=match v with | .agg xs=>xs.getD k undef|_=>undef
def RtAll (w:World) (rs:List Rt):Prop:=∀r∈rs,RdsW w r.nv 1 r.ns.length (r.ns.map (Value.int .i64))∧RdsW w r.fv 1 r.fs.length (r.fs.map (Value.int .i64))
theorem uC (w:World):RdsW w (.slice none 0 0) 1 0 []:=⟨_,_,rfl,AI,⟨V,V⟩,fun h=>absurd h V⟩
theorem RtAll.start (w:World) (n:Nat):RtAll w (replicate n rt0):=fun r e=>by
  rw[List.eq_of_mem_replicate e];exact⟨uC w,uC w⟩
theorem RtAll.rds {w:World}{v:Value}{rs e:List Rt}(h:RtAll w rs) (E:RdsW w v 2 e.length (e.flatMap Rt.cells)) (D:∀r∈e,r∈rs):RdsRt w v e:=⟨E,fun r B=>(h r (D r B)).1,fun r B=>(h r (D r B)).2⟩
theorem RtAll.set {w:World}{rs:List Rt}{k:Nat}{r:Rt}(h:RtAll w rs) (B:RdsW w r.nv 1 r.ns.length (r.ns.map (Value.int .i64))∧RdsW w r.fv 1 r.fs.length (r.fs.map (Value.int .i64))):RtAll w (rs.set k r):=fun x e=>by
  rcases List.mem_or_eq_of_mem_set e with e|rfl
  · exact h x e
  · exact B
theorem Hj {w:World}{r:Rt}(h:(rtE r).holds w):RdsW w r.nv 1 r.ns.length (r.ns.map (Value.int .i64))∧RdsW w r.fv 1 r.fs.length (r.fs.map (Value.int .i64)):=⟨cI (h.1 _ mem_cons_self).2,cI (h.1 _ (mem_cons_of_mem _ mem_cons_self)).2⟩
theorem Dw {rs D:List Rt}(h:∀r∈rs,r.nv.oneCell'=true∧r.fv.oneCell'=true) (E:∀r∈D,r∈rs):∀q∈D.flatMap Rt.cells,q.oneCell'=true:=fun q e=>by
  obtain⟨r,G,B⟩:=List.mem_flatMap.1 e
  have:=h r (E r G)
  rcases List.mem_cons.1 B with rfl|B
  · exact this.1
  · rw[List.mem_singleton.1 B];exact this.2
structure RsG (d:Dev) (pl:List Int) (cs:List Cn) (rs:List Rt) (k:Nat):Prop where
  len:rs.length=cs.length
  one:∀r∈rs,r.nv.oneCell'=true∧r.fv.oneCell'=true
  ok:∀r∈rs,NsOk (allI d).toNat r.ns
  gi:∀j,j<k→GInv d (srcN d pl (cs.getD j cn0)) (snkG d pl (cs.getD j cn0).ks) (snkG d pl (cs.getD j cn0).ks).length (rs.getD j rt0)
theorem RsG.start {d:Dev}{pl:List Int}{cs:List Cn}:RsG d pl cs (replicate cs.length rt0) 0:=⟨length_replicate,fun r e=>by rw[List.eq_of_mem_replicate e];exact⟨rfl,rfl⟩,fun r e=>by rw[List.eq_of_mem_replicate e];exact⟨List.nodup_nil,fun x h=>(by cases h),Nat.zero_le _⟩,fun j B=>O⟩
theorem RsG.again {d:Dev}{pl:List Int}{cs:List Cn}{rs:List Rt}{k:Nat}(h:RsG d pl cs rs k):RsG d pl cs rs 0:=⟨h.len,h.one,h.ok,fun j e=>O⟩
theorem RsG.set {d:Dev}{pl:List Int}{cs:List Cn}{rs:List Rt}{k:Nat}(h:RsG d pl cs rs k) (hd:99≤allI d∧allI d≤828) (hk:k<cs.length) {r:Rt}(ho:r.nv.oneCell'=true∧r.fv.oneCell'=true) (hg:GInv d (srcN d pl (cs.getD k cn0)) (snkG d pl (cs.getD k cn0).ks) (snkG d pl (cs.getD k cn0).ks).length r):RsG d pl cs (rs.set k r) (k+1):=by
  have hl:=h.len
  refine⟨by rw[length_set];exact hl,fun x hx=>?_,fun x hx=>?_,fun j hj=>?_⟩
  · rcases List.mem_or_eq_of_mem_set hx with hx | rfl
    · exact h.one x hx
    · exact ho
  · rcases List.mem_or_eq_of_mem_set hx with hx | rfl
    · exact h.ok x hx
    · exact hg.tr.nsok hd
  · rw [kZ (by omega)]
    by_cases e:k=j
    · subst e;rw[if_pos rfl];exact hg
    · rw[if_neg e];exact h.gi j (by omega)
theorem tr_of {d:Dev}{s:Int}{ns fs:List Int}(h:TreeG d s ns fs):TrP d s ns:=fun i hi=>by
  by_cases e:i=0
  · subst e;exact .inl h.root
  · obtain ⟨a, b, c⟩ := h.step i (by omega) hi
    exact .inr ⟨(fs.getD i 0).toNat,by omega,mV.1 c⟩
theorem tQ {α:Type}{p:α→Bool}{d:α}:∀(rs:List α) (i j:Nat),i<j→j<rs.length→p (rs.getD i d)=true→p (rs.getD j d)=true→2≤(rs.filter p).length
  | [],_,j,_,h,_,_=>by simp at h
  | r::rs,0,j+1,_,hj,h1,h2=>by
    have e:p r=true:=h1
    have B:0<(rs.filter p).length:=List.length_pos_of_mem (a:=rs.getD j d) (List.mem_filter.2 ⟨eN (by simpa using hj),h2⟩)
    rw[List.filter_cons_of_pos e,length_cons];omega
  | r::rs,i+1,j+1,hij,hj,h1,h2=>by
    have e:=tQ rs i j O (by simpa using hj) h1 h2 (p:=p)
    rw[List.filter_cons];split
    · rw[length_cons];omega
    · exact e
theorem RsG.all {d:Dev}{pl:List Int}{cs:List Cn}{rs:List Rt}{k:Nat}(h:RsG d pl cs rs k) (hk:k=cs.length) (hu:∀x,x<(allI d).toNat→¬1<(useL (allI d).toNat rs).getD x 0):RsApart d pl cs (rs.map Rt.ns):=by
  subst hk
  have hl:=h.len
  refine⟨by rw[length_map];exact hl,fun i hi=>?_,fun i hi q hq=>?_,fun i j hij hj x hx hx2=>?_⟩
  · rw[nU (by omega)];exact tr_of (h.gi i hi).tr
  · rw [nU (by omega)]
    obtain⟨n,hn,rfl⟩:=iF hq
    exact(h.gi i hi).has n hn
  · rw [length_map] at hj
    rw[nU (by omega)] at hx
    rw[nU (by omega)] at hx2
    obtain⟨r0,r1⟩:=(h.ok _ (eN (d:=rt0) hj)).rng x hx2
    have e:((x.toNat:Nat):Int)=x:=by omega
    refine hu x.toNat (by omega) ?_
    rw[Bx rs (by omega)]
    unfold cntI
    have:=tQ (p:=fun r:Rt=>r.ns.contains ((x.toNat:Nat):Int)) (d:=rt0) rs i j hij hj (by rw[e];exact List.contains_iff_mem.2 hx) (by rw[e];exact List.contains_iff_mem.2 hx2)
    omega
structure HsB (N:Nat) (B:Int) (x:Nat) (hs:List Int):Prop where
  len:hs.length=N
  lo:∀y,y<N→0≤hs.getD y 0
  up:∀y,y<N→hs.getD y 0≤B+4000
  at_:∀y,x≤y→y<N→hs.getD y 0≤B
theorem HsB.start {N:Nat}:HsB N 0 0 (replicate N (0:Int)):=⟨length_replicate,fun y _=>by rw[lT];exact Int.le_refl _,fun y _=>by rw[lT];decide,fun y _ _=>by rw[lT];exact Int.le_refl _⟩
theorem HsB.next {N:Nat}{B:Int}{x:Nat}{e:List Int}(h:HsB N B x e):HsB N B (x+1) e:=⟨h.len,h.lo,h.up,fun y E D=>h.at_ y O D⟩
theorem HsB.put {N:Nat}{B:Int}{x:Nat}{hs:List Int}(h:HsB N B x hs) (hx:x<N) {v:Int}(h0:hs.getD x 0≤v) (h1:v≤hs.getD x 0+4000):HsB N B (x+1) (hs.set x v):=by
  have hl:=h.len
  have e:=fun y=>iB (l:=hs) (i:=x) (j:=y) (x:=v) (by omega)
  refine⟨by rw[length_set];exact hl,fun y hy=>?_,fun y hy=>?_,fun y hy hN=>?_⟩
  · rw [e]; split
    · have:=h.lo x hx;omega
    · exact h.lo y hy
  · rw [e]; split
    · have:=h.at_ x (Nat.le_refl _) hx;omega
    · exact h.up y hy
  · rw[e,if_neg (by omega)];exact h.at_ y (by omega) hN
theorem HsB.fin {N:Nat}{B:Int}{x:Nat}{D:List Int}(h:HsB N B x D):HsB N (B+4000) 0 D:=⟨h.len,h.lo,fun y e=>by have:=h.up y e;omega,fun y _ e=>h.up y e⟩
theorem sh_rng {e us:List Int}{p:Int}{N:Nat}(B:∀y,y<N→0≤e.getD y 0) (D:∀y,y<N→0≤us.getD y 0) (E:0≤p):∀k,k<(shL e us p N).length→1≤(shL e us p N).getD k 0∧(shL e us p N).getD k 0≤100000:=fun k h=>by
  rw[Ce] at h
  rw[sh_at e us p h]
  have:=Int.mul_nonneg E (D k h)
  have:=B k h
  unfold shI
  split<;>omega
theorem use_nn {N:Nat}{rs:List Rt}:∀y,y<N→0≤(useL N rs).getD y 0:=fun y e=>by rw[Bx rs e];exact(zB rs y).1
theorem Ea {rs:List Rt}{k m:Nat}:∀r∈rs.take k++rs.drop m,r∈rs:=fun r e=>(List.mem_append.1 e).elim List.mem_of_mem_take List.mem_of_mem_drop
theorem Jl {d:Dev}{pl:List Int}{c:Cn}(h:0≤srcN d pl c):5≤srcN d pl c % perI d:=by
  unfold srcN at h ⊢
  by_cases hc:0≤c.sb∧c.sb<pl.length
  · rw [if_pos hc] at h ⊢
    by_cases hc:0≤c.sp∧c.sp<outPinsI (tileKindI d (pl.getD c.sb.toNat 0))
    · have e := (gA d (pl.getD c.sb.toNat 0) c.sp).1 hc
      obtain⟨r0,r1,r2⟩:=qI d (pl.getD c.sb.toNat 0)
      obtain⟨hv,t0,t1⟩:=(fC _ _).1 (r2 (by omega))
      obtain⟨q1,q2⟩:=fR hv
      obtain⟨f1,f2⟩:=wI (W:=perI d) (x:=5+c.sp) (y:=pl.getD c.sb.toNat 0) (by omega) (by omega) (by omega)
      rw[e,show pl.getD c.sb.toNat 0*perI d+5+c.sp=pl.getD c.sb.toNat 0*perI d+(5+c.sp) by omega,f1]
      omega
    · rw[(gA d (pl.getD c.sb.toNat 0) c.sp).2 hc] at h;omega
  · rw[if_neg hc] at h;omega
structure SkI (d:Dev) (pl:List Int) (cs:List Cn) (i:Nat) (zs:List Int) (qs:List CRow):Prop where
  zl:zs.length=i
  ql:qs.length=i
  z:∀k,k<i→zs.getD k 0=srcN d pl (cs.getD k cn0)∧0≤srcN d pl (cs.getD k cn0)
  q:∀k,k<i→(qs.getD k crow0).xs=snkG d pl (cs.getD k cn0).ks
theorem SkI.nil {d:Dev}{pl:List Int}{cs:List Cn}:SkI d pl cs 0 [] []:=⟨rfl,rfl,fun k e=>O,fun k e=>O⟩
theorem oT {α:Type}{d:α}{xs:List α}{x:α}{k:Nat}(h:k<xs.length+1):(xs++[x]).getD k d=if k=xs.length then x else xs.getD k d:=by
  rw[getD_eq_getElem?_getD,getD_eq_getElem?_getD]
  by_cases e:k=xs.length
  · subst e;rw[if_pos rfl,List.getElem?_append_right (Nat.le_refl _),Nat.sub_self];rfl
  · rw[if_neg e,List.getElem?_append_left O]
theorem SkI.app {d:Dev}{pl:List Int}{cs:List Cn}{i:Nat}{zs:List Int}{qs:List CRow}(h:SkI d pl cs i zs qs) (h0:0≤srcN d pl (cs.getD i cn0)) {v:Value}:SkI d pl cs (i+1) (zs++[srcN d pl (cs.getD i cn0)]) (qs++[CRow.mk v (snkG d pl (cs.getD i cn0).ks)]):=by
  have e1:=h.zl
  have e2:=h.ql
  refine⟨by rw[length_append,e1];rfl,by rw[length_append,e2];rfl,fun k hk=>?_,fun k hk=>?_⟩
  · rw [oT (by omega)]; split
    · have : k = i := by omega
      subst this;exact⟨rfl,h0⟩
    · exact h.z k (by omega)
  · rw [oT (by omega)]; split
    · have : k = i := by omega
      subst this;rfl
    · exact h.q k (by omega)
theorem In {α:Type}(f:α→List Value) (xs e:List α):xs.flatMap f++e.flatMap f=(xs++e).flatMap f:=List.flatMap_append.symm
theorem vF {α:Type}{f:α→List Value}{s:Nat}(e:∀a,(f a).length=s):∀(xs:List α) (k:Nat),(xs.flatMap f).drop (k*s)=(xs.drop k).flatMap f
  | [],k=>AI
  | x::xs,0=>AI
  | x::xs,k+1=>by
    rw[List.flatMap_cons,drop_succ_cons,List.drop_append,e x,Nat.succ_mul,Nat.add_sub_cancel,vF e xs k,List.drop_of_length_le (by rw[e x];omega),nil_append]
theorem Jy {w0:World}{l:List HP}{α:Type}{f:α→List Value}{s:Nat}(B:∀a,(f a).length=s) {v:Value}{xs:List α}(h:Rd w0 l v s xs.length (xs.flatMap f)) {k:Nat}(e:k≤xs.length):Rd w0 l (slV v 0 k s) s (xs.take k).length ((xs.take k).flatMap f):=fun w D=>by
  have:=uF (h w D) (Nat.zero_le k) e
  simp only[Nat.sub_zero,Nat.zero_mul,drop_zero] at this
  rw[rY f s B] at this
  rw[length_take,Nat.min_eq_left e];exact this
theorem Jx {w0:World}{l:List HP}{α:Type}{f:α→List Value}{s:Nat}(B:∀a,(f a).length=s) {v:Value}{xs:List α}(h:Rd w0 l v s xs.length (xs.flatMap f)) {k:Nat}(D:k≤xs.length):Rd w0 l (slV v k xs.length s) s (xs.drop k).length ((xs.drop k).flatMap f):=fun w E=>by
  have:=uF (h w E) D (Nat.le_refl _)
  rw[vF B,List.take_of_length_le (by
    have G:∀(e:List α),(e.flatMap f).length=e.length*s:=fun e=>by induction e with|nil=>simp|cons y e ih=>rw[List.flatMap_cons,length_append,ih,B,length_cons,Nat.succ_mul];omega
    rw[G,length_drop];exact Nat.le_refl _)] at this
  rw[length_drop];exact this
open Go.RowKit
theorem Ao (d:Dev) (rs:List CRow) (gv:Value) (cs M:List Int) (cv sv:Value) (w:World) (hd:devB d=true) (E:RdsCl w gv rs) (K:GsOk d rs (allI d).toNat) (a0:RdsW w cv 1 cs.length (cs.map (Value.int .i64))) (a1:CsB d cs) (a2:RdsW w sv 1 M.length (M.map (Value.int .i64))) (aq:M.length≤1000000) (ae:∀k,k<M.length→0≤M.getD k 0∧M.getD k 0<allI d) :
   Calls Tryz.prog 65 #[gv,cv,sv] w (Ret w (fun v' post=>∃D:List Int,post=[rI9 3 v' D]∧DfE d cs D)):=by
 obtain⟨ar,au⟩:=eM hd
 have aw:=K.1
 have ax:=a1.1
 refine aY (N:=94) (args:=[gv,cv,sv]) Tryz.func65 A A (cF 1 A (dW ?_))
 refine cH A (bU (s:=1) A z8 A) ?_
 intro g1
 refine bG 1 A (aG (cF 1 A (bS ?_)))
 refine fP (α:=Nat) (β:=Value) (γ:=List Int) [0,1,2,6] A (fun i u zs=>[rI9 3 u zs]) (fun i u zs=>[(7,u),(8,jI (i:Int))]) (fun i u zs=>i≤(allI d).toNat∧zs.length=i∧∀k,k<zs.length→zs.getD k 0 = -1) (fun i u zs=>(allI d).toNat-i) 0 _ [] ⟨Nat.zero_le _,A,fun k hk=>by cases hk⟩ (bV A) (cZ A) ?_
 intro i u zs af
 obtain⟨hi,ah,aa⟩:=af
 refine aG (aG (cN 2 A (aN A (eV A A A (aE E.row)) ?_)))
 refine aW A A A A A A (fun h3=>?_) (fun h3=>?_)
 refine dL (aR A (eC (jR (cN 1 A ?_))))
 refine cH A (aH (z:=jI 0) (s:=1) (cs:=(mI [-1])) A z8 A V A F A) ?_
 intro g4
 refine bT (i:=1) (z:=jI 0) (bytes:=8) A A A A z8 F A A A A (aB 0 A) (bI _) AD (bK zs ([-1])) (cB zs ([-1])) (fun _=>A) ?_
 intro v5
 refine eS 1 A (eB (cN 1 A (aN A (eY A A A) (eS 1 A ?_))))
 exact aQ (i+1) v5 (zs++([-1])) ⟨O,by rw[length_append,ah];rfl,fun k hk=>by
   rw[length_append,length_singleton] at hk
   rw[oT O];split
   · rfl
   · exact aa k O⟩ O (bV rfl) (eA [1] rfl)
 refine dL (aV A ?_)
 refine bW (fM ?_)
 refine aO (bB (aG (cF 1 A (bS ?_))))
 refine iG (α:=Nat) (β:=List Int) [0,1,2,6,7,18] A (fun j Z=>[rI9 3 u Z]) (fun j Z=>[(9,jI (j:Int))]) (fun j Z=>j≤M.length∧Dz d Z) (fun j Z=>M.length-j) 0 zs ⟨Nat.zero_le _,O,fun k hk=>.inl (aa k hk)⟩ (bV A) (cZ A) ?_
 intro j Z ai
 obtain⟨hj,a3⟩:=ai
 have ay:=a3.1
 refine aG (aG (cN 2 A (aN A (eV A A A (aE a2)) ?_)))
 refine aW A A A A A A (fun h7=>?_) (fun h7=>?_)
 refine dL (aR A (eC (jR (cN 2 A ?_))))
 have an:=ae j O
 refine aS 1 A (aN A (cV 1 A A A A (aE a2)) (aN A (lD A A A (aE a2)) (aN A (cV 1 A A A A (aB 0 A)) ?_)))
 refine dS (i:=0) (n':=(Z.set ((M.getD j 0).toNat) 0).length) (xs':=(mI (Z.set ((M.getD j 0).toNat) 0))) A A A A A A A A AA List.length_set.symm (eP _ _ _) A (cP (eB (cN 1 A (aN A (eY A A A) (eS 1 A ?_)))))
 exact bO (j+1) (Z.set ((M.getD j 0).toNat) 0) ⟨O,a3.set O⟩ O (bV A) (cZ A)
 refine dL (aV A ?_)
 refine bW (fM ?_)
 refine aO (bB (cF 1 A (jR ?_)))
 refine iG (α:=List Int) (β:=Bool) [0,1,2,6,7,18,27] A (fun D ag=>[rI9 3 u D]) (fun D ag=>[(10,.bool ag)]) (fun D ag=>DfX d cs D∧(ag=false→∀k,k<(allI d).toNat→FixK d cs D k)) (fun D ag=>2*sumW (9*(allI d).toNat+1) D+(if ag=true then 1 else 0)) Z true ⟨a3.dfx,fun e=>by cases e⟩ (bV A) (cZ A) ?_
 intro D ag aj
 obtain⟨a4,ak⟩:=aj
 have az:=a4.len
 refine aG (aG (cN 1 A ?_))
 refine bD (fun h9=>?_) (fun h9=>?_)
 refine dL (aR A (eC (bS (cF 1 A (aG ?_)))))
 refine bP (bG 1 A (bS ?_))
 refine fP (α:=Nat) (β:=List Int) (γ:=Bool) [0,1,2,6,7,18,27,36] A (fun k D2 G=>[rI9 3 u D2]) (fun k D2 G=>[(10,.bool G),(11,jI (k:Int))]) (fun k D2 G=>k≤(allI d).toNat∧RndD d cs D D2 G k) (fun k D2 G=>(allI d).toNat-k) 0 D false ⟨Nat.zero_le _,RndD.start a4⟩ (bV A) (cZ A) ?_
 intro k D2 G ab
 obtain⟨hk,U⟩:=ab
 have ao:=U.dfx.len
 refine aG (aG (cN 2 A (aN A (eV A A A (aE E.row)) ?_)))
 refine aW A A A A A A (fun al=>?_) (fun al=>?_)
 refine dL (aR A (eC (jR (cF 1 A ?_))))
 refine bS ?_
 refine fP (α:=Nat) (β:=List Int) (γ:=Bool) [0,1,2,6,7,11,18,27,36,40] A (fun i h B=>[rI9 3 u h]) (fun i h B=>[(10,.bool B),(12,jI (i:Int))]) (fun i h B=>i≤(rs.getD k crow0).xs.length∧RndD d cs D h B k∧(B=false→∀j,j<i→0≤gI h ((srcI d k).getD j 0)→0≤h.getD k 0∧h.getD k 0≤gI h ((srcI d k).getD j 0)+cs.getD k 0)) (fun i h B=>(rs.getD k crow0).xs.length-i) 0 D2 G ⟨Nat.zero_le _,U,fun _ j hj=>O⟩ (bV A) (cZ A) ?_
 intro i h B ac
 obtain⟨b0,J,a5⟩:=ac
 have ap:=J.dfx.len
 have b1:(rs.getD k crow0).xs.length≤1000:=by rw[K.2 k O];exact tV d _
 refine aG (aG (cN 3 A (aN A (cV 1 A A A A (aE E.row)) ?_)))
 refine aN A (aL (u:=(rs.getD k crow0).v) A A A (aE E.row) (dF crowC (fun r=>r.v) (fun _=>A) rs crow0 (show k<_ by omega))) (aN A (eV A A A (aE (E.at (k:=k) O))) ?_)
 refine aW A A A A A A (fun am=>?_) (fun am=>?_)
 refine dL (aR A (eC (jR (dW ?_))))
 have a6:((rs.getD k crow0).xs.getD i 0)∈srcI d k:=by rw[←K.2 k O];exact dV O
 obtain⟨b2,b3⟩:=lH a6
 have b4:=J.dfx.bnd (k:=((rs.getD k crow0).xs.getD i 0).toNat) O
 have b5:=J.dfx.bnd (k:=k) O
 have b6:=a1.2 k O
 refine aS 3 A (aN A (cV 1 A A A A (aE E.row)) ?_)
 refine aN A (aL (u:=(rs.getD k crow0).v) A A A (aE E.row) (dF crowC (fun r=>r.v) (fun _=>A) rs crow0 (show k<_ by omega))) (aS 1 A (aN A (cV 1 A A A A (aE (E.at (k:=k) O))) (aN A (aL (u:=jI (((rs.getD k crow0).xs).getD i 0)) A A A (aE (E.at (k:=k) O)) (cJ (show _<((rs.getD k crow0).xs).length by omega))) (aN A (cV 1 A A A A (aB 0 A)) (aN A (lP A A A (aB 0 A)) (bG 1 A (aG ?_)))))))
 rcases eq_false_or_eq_true (decide (0≤h.getD ((((rs.getD k crow0).xs).getD i 0).toNat) 0)) with X|X
 have a7:0≤h.getD ((((rs.getD k crow0).xs).getD i 0).toNat) 0:=of_decide_eq_true X
 rcases eq_false_or_eq_true (decide (h.getD k 0<0)) with Y|Y
 have a8:h.getD k 0<0:=of_decide_eq_true Y
 refine bL 22 [[],[0],[1],[2],[2],[2,3,4],[2,5],[2,6],[2,7],[8],[8],[8],[8],[8],[8],[8],[8],[8],[8],[8],[2,8,19],[2,20]] [62,63,64,65,66,67,68,69,70,71,72,73,74,75,76,77,78,79,80,81,82,83] [jI (h.getD ((((rs.getD k crow0).xs).getD i 0).toNat) 0),.bool true,.bool true,u,jI (k:Int),elP u ((k:Int).toNat*1),jI (h.getD k 0),.bool true,.bool true,undef,undef,undef,undef,undef,undef,undef,undef,undef,undef,undef,.bool true,.bool true] F A ?_ ?_
 exact⟨aJ,aJ,aJ,aJ,aJ,aJ,aJ,aJ,aJ,aJ,aJ,aJ,aJ,aJ,aJ,aJ,aJ,aJ,aJ,aJ,aJ,aJ,trivial⟩
 simp only[drop_succ_cons,drop_zero]
 refine dL (aR A (aG (cN 5 A (aN A (cV 1 A A A A (aE a0)) (aN A (lD A A A (aE a0)) (aN A (eY A A A) (aN A (cV 1 A A A A (aB 0 A)) ?_)))))))
 refine dS (i:=0) (n':=(h.set k ((h.getD ((((rs.getD k crow0).xs).getD i 0).toNat) 0)+(cs.getD k 0))).length) (xs':=((h.set k ((h.getD ((((rs.getD k crow0).xs).getD i 0).toNat) 0)+(cs.getD k 0))).map (Value.int .i64))) A A A A A A A A AA List.length_set.symm (eP _ _ _) A (dL (bP (eS 1 A (eB (cN 1 A (aN A (eY A A A) (aS 1 A (?_))))))))
 exact cP (aQ (i+1) (h.set k ((h.getD ((((rs.getD k crow0).xs).getD i 0).toNat) 0)+(cs.getD k 0))) true ⟨O,J.put a1 O a6 (by unfold gI;omega) (by unfold gI;omega),fun e=>by cases e⟩ O (bV A) (cZ A))
 have a8:¬(h.getD k 0<0):=of_decide_eq_false Y
 refine bL 22 [[],[0],[1],[2],[2],[2,3,4],[2,5],[2,6],[2,7],[8],[8],[8],[8,10,11],[8,12],[8,9,13],[8],[8],[8,15,16],[8,17],[8,14,18],[2,8,19],[2,20]] [62,63,64,65,66,67,68,69,70,71,72,73,74,75,76,77,78,79,80,81,82,83] [jI (h.getD ((((rs.getD k crow0).xs).getD i 0).toNat) 0),.bool true,.bool true,u,jI (k:Int),elP u ((k:Int).toNat*1),jI (h.getD k 0),.bool false,.bool false,jI (h.getD ((((rs.getD k crow0).xs).getD i 0).toNat) 0),cv,jI (k:Int),elP cv ((k:Int).toNat*1),jI (cs.getD k 0),jI ((h.getD ((((rs.getD k crow0).xs).getD i 0).toNat) 0)+(cs.getD k 0)),u,jI (k:Int),elP u ((k:Int).toNat*1),jI (h.getD k 0),.bool (decide ((h.getD ((((rs.getD k crow0).xs).getD i 0).toNat) 0)+(cs.getD k 0)<h.getD k 0)),.bool (decide ((h.getD ((((rs.getD k crow0).xs).getD i 0).toNat) 0)+(cs.getD k 0)<h.getD k 0)),.bool (decide ((h.getD ((((rs.getD k crow0).xs).getD i 0).toNat) 0)+(cs.getD k 0)<h.getD k 0))] F A ?_ ?_
 exact⟨aJ,aJ,aJ,aJ,aJ,aJ,aJ,aJ,aJ,aJ,aJ,aJ,aJ,aJ,aJ,aJ,aJ,aJ,aJ,aJ,aJ,aJ,trivial⟩
 simp only[drop_succ_cons,drop_zero]
 refine dL ?_
 refine fO A (fun a9=>?_) (fun a9=>?_)
 have ad:(h.getD ((((rs.getD k crow0).xs).getD i 0).toNat) 0)+(cs.getD k 0)<h.getD k 0:=of_decide_eq_true a9
 refine aG (cN 5 A (aN A (cV 1 A A A A (aE a0)) (aN A (lD A A A (aE a0)) (aN A (eY A A A) (aN A (cV 1 A A A A (aB 0 A)) ?_)))))
 refine dS (i:=0) (n':=(h.set k ((h.getD ((((rs.getD k crow0).xs).getD i 0).toNat) 0)+(cs.getD k 0))).length) (xs':=((h.set k ((h.getD ((((rs.getD k crow0).xs).getD i 0).toNat) 0)+(cs.getD k 0))).map (Value.int .i64))) A A A A A A A A AA List.length_set.symm (eP _ _ _) A (dL (bP (eS 1 A (eB (cN 1 A (aN A (eY A A A) (aS 1 A (?_))))))))
 exact cP (aQ (i+1) (h.set k ((h.getD ((((rs.getD k crow0).xs).getD i 0).toNat) 0)+(cs.getD k 0))) true ⟨O,J.put a1 O a6 (by unfold gI;omega) (by unfold gI;omega),fun e=>by cases e⟩ O (bV A) (cZ A))
 have ad:¬((h.getD ((((rs.getD k crow0).xs).getD i 0).toNat) 0)+(cs.getD k 0)<h.getD k 0):=of_decide_eq_false a9
 refine gP (eB (cN 1 A (aN A (eY A A A) (eS 1 A ?_))))
 exact aQ (i+1) h B ⟨O,J,fun e j hj=>by
   by_cases e2:j=i
   · subst e2;rw[←K.2 k O];unfold gI;intro h0;omega
   · exact a5 e j O⟩ O (bV rfl) (cZ rfl)
 have a7:¬(0≤h.getD ((((rs.getD k crow0).xs).getD i 0).toNat) 0):=of_decide_eq_false X
 refine bL 22 [[],[0],[1],[2],[2],[2],[2],[2],[2],[8],[8],[8],[8],[8],[8],[8],[8],[8],[8],[8],[2],[2,20]] [62,63,64,65,66,67,68,69,70,71,72,73,74,75,76,77,78,79,80,81,82,83] [jI (h.getD ((((rs.getD k crow0).xs).getD i 0).toNat) 0),.bool false,.bool false,undef,undef,undef,undef,undef,undef,undef,undef,undef,undef,undef,undef,undef,undef,undef,undef,undef,undef,.bool false] F A ?_ ?_
 exact⟨aJ,aJ,aJ,aJ,aJ,aJ,aJ,aJ,aJ,aJ,aJ,aJ,aJ,aJ,aJ,aJ,aJ,aJ,aJ,aJ,aJ,aJ,trivial⟩
 simp only[drop_succ_cons,drop_zero]
 refine dL (jQ A (eB (cN 1 A (aN A (eY A A A) (eS 1 A ?_)))))
 exact aQ (i+1) h B ⟨O,J,fun e j hj=>by
   by_cases e2:j=i
   · subst e2;rw[←K.2 k O];unfold gI;intro h0;omega
   · exact a5 e j O⟩ O (bV rfl) (cZ rfl)
 refine dL (aV A ?_)
 refine bW (fM ?_)
 refine aO (eB (cN 1 A (aN A (eY A A A) (eS 1 A ?_))))
 exact aQ (k+1) h B ⟨O,J.next (fun e=>Ku (fun j hj=>a5 e j (by rw[←K.2 k O] at hj;omega)))⟩ O (bV A) (cZ A)
 refine dL (aV A ?_)
 refine bW (fM ?_)
 refine aO (cG ?_)
 exact bO D2 G ⟨U.dfx,fun e j hj=>U.fix e j O⟩ (U.less I) (bV A) (cZ A)
 refine dL (aV A ?_)
 refine bW (fM ?_)
 refine aO (bB (cF 2 A ?_))
 exact cW (bM (post:=[rI9 3 u D]) A A (cZ A) ⟨D,A,a4,ak I⟩)
theorem Al (d:Dev) (rs:List CRow) (gv:Value) (cs D:List Int) (cv M:Value) (t0:Int) (w:World) (hd:devB d=true) (E:RdsCl w gv rs) (U:GsOk d rs (allI d).toNat) (an:RdsW w cv 1 cs.length (cs.map (Value.int .i64))) (a7:CsB d cs) (a8:RdsW w M 1 D.length (D.map (Value.int .i64))) (hD:DfE d cs D) (ht:0≤t0∧t0<allI d) (hp:0≤D.getD t0.toNat 0) :
   Calls Tryz.prog 66 #[gv,cv,M,.int .i64 t0] w (Ret w (fun v' post=>∃xs:List Int,post=[rI9 3 v' xs]∧(1≤xs.length∧xs.length≤7453)∧∀x∈xs,0≤x∧x<allI d)):=by
 obtain⟨ao,ap⟩:=eM hd
 have aq:=U.1
 have ar:=a7.1
 have au:=hD.dfx.len
 have am:=hD.dfx.bnd (k:=t0.toNat) O
 refine aY (N:=85) (args:=[gv,cv,M,jI t0]) Tryz.func66 A A (cF 1 A (aG (cN 1 A ?_)))
 refine cH A (aH (z:=jI 0) (s:=1) (cs:=(mI [t0])) A z8 A V A F A) fun g1=>go ?_
 refine fP (α:=Int) (β:=Value) (γ:=List Int) [0,1,2,8] A (fun t u zs=>[rI9 3 u zs]) (fun t u zs=>[(3,jI t),(9,u)]) (fun t u zs=>(0≤t∧t<allI d)∧0≤D.getD t.toNat 0∧1≤zs.length∧(zs.length:Int)+D.getD t.toNat 0≤D.getD t0.toNat 0+1∧∀x∈zs,0≤x∧x<allI d) (fun t u zs=>(D.getD t.toNat 0).toNat) t0 _ [t0] ⟨ht,hp,Nat.le_refl _,by simp;omega,by simpa using ht⟩ (bV A) (cZ A) fun t u zs ac=>go ?_
 obtain⟨⟨aw,ax⟩,ay,az,b0,a3⟩:=ac
 have b1:=hD.dfx.bnd (k:=t.toNat) O
 have X:((t.toNat:Nat):Int)=t:=O
 have b2:=a7.2 t.toNat O
 refine aN A (cV 1 A A A A (aE a8)) (aN A (lP A A A (aE a8)) ?_)
 refine fJ A A A A A A (fun h3=>go ?_) (fun h3=>go ?_)
 obtain⟨b3,b4⟩:0<D.getD t.toNat 0∧True:=⟨O,trivial⟩
 refine iG (α:=Nat) (β:=Int) [0,1,2,3,8,9,21] A (fun i h=>[rI9 3 u zs]) (fun i h=>[(10,jI h),(11,jI (i:Int))]) (fun i h=>i≤(rs.getD (t.toNat) crow0).xs.length∧((h = -1∧∀j,j<i→0≤D.getD ((rs.getD (t.toNat) crow0).xs.getD j 0).toNat 0→D.getD ((rs.getD (t.toNat) crow0).xs.getD j 0).toNat 0+cs.getD t.toNat 0≠D.getD t.toNat 0)∨(0≤h∧h<allI d∧0≤D.getD h.toNat 0∧D.getD h.toNat 0+cs.getD t.toNat 0=D.getD t.toNat 0))) (fun i h=>(rs.getD (t.toNat) crow0).xs.length-i) 0 (-1) ⟨Nat.zero_le _,.inl ⟨A,fun j hj=>O⟩⟩ (bV A) (cZ A) fun i h ad=>go ?_
 obtain⟨b5,J⟩:=ad
 refine aN A (cV 1 A A A A (aE E.row)) ?_
 refine aN A (aL (u:=(rs.getD (t.toNat) crow0).v) A A A (aE E.row) (dF crowC (fun r=>r.v) (fun _=>A) rs crow0 (show t.toNat<_ by omega))) ?_
 have b6:(rs.getD (t.toNat) crow0).xs.length≤1000:=by rw[U.2 t.toNat O];exact tV d _
 refine aN A (eV A A A (aE (E.at (k:=t.toNat) O))) (aW A A A A A A (fun h5=>go ?_) (fun h5=>go ?_))
 refine aW A A A A A A (fun h6=>go ?_) (fun h6=>go ?_)
 have ae:((rs.getD (t.toNat) crow0).xs.getD i 0)∈srcI d t:=by have h9:=U.2 t.toNat O;rw[X] at h9;rw[←h9];exact dV O
 obtain⟨af,b7⟩:=lH ae
 have b8:=hD.dfx.bnd (k:=((rs.getD (t.toNat) crow0).xs.getD i 0).toNat) O
 refine aN A (cV 1 A A A A (aE E.row)) ?_
 refine aN A (aL (u:=(rs.getD (t.toNat) crow0).v) A A A (aE E.row) (dF crowC (fun r=>r.v) (fun _=>A) rs crow0 (show t.toNat<_ by omega))) (go ?_)
 refine aN A (cV 1 A A A A (aE (E.at (k:=t.toNat) O))) (aN A (aL (u:=jI (((rs.getD (t.toNat) crow0).xs).getD i 0)) A A A (aE (E.at (k:=t.toNat) O)) (cJ (show _<((rs.getD (t.toNat) crow0).xs).length by omega))) (go ?_))
 rcases eq_false_or_eq_true (decide (0≤D.getD ((((rs.getD (t.toNat) crow0).xs).getD i 0).toNat) 0)) with a4|a4
 have a9:0≤D.getD ((((rs.getD (t.toNat) crow0).xs).getD i 0).toNat) 0:=of_decide_eq_true a4
 refine bL 21 [[],[],[0,1],[2],[3],[4],[5],[5],[5,6,7],[5,8],[5],[5],[5,10,11],[5,12],[5,9,13],[5],[5],[5,15,16],[5,17],[5,14,18],[5,19]] [42,43,44,45,46,47,48,49,50,51,52,53,54,55,56,57,58,59,60,61,62] [M,jI (((rs.getD (t.toNat) crow0).xs).getD i 0),elP M ((((rs.getD (t.toNat) crow0).xs).getD i 0).toNat*1),jI (D.getD ((((rs.getD (t.toNat) crow0).xs).getD i 0).toNat) 0),.bool true,.bool true,M,jI (((rs.getD (t.toNat) crow0).xs).getD i 0),elP M ((((rs.getD (t.toNat) crow0).xs).getD i 0).toNat*1),jI (D.getD ((((rs.getD (t.toNat) crow0).xs).getD i 0).toNat) 0),cv,jI t,elP cv (t.toNat*1),jI (cs.getD (t.toNat) 0),jI ((D.getD ((((rs.getD (t.toNat) crow0).xs).getD i 0).toNat) 0)+(cs.getD (t.toNat) 0)),M,jI t,elP M (t.toNat*1),jI (D.getD (t.toNat) 0),.bool (((D.getD ((((rs.getD (t.toNat) crow0).xs).getD i 0).toNat) 0)+(cs.getD (t.toNat) 0))==(D.getD (t.toNat) 0)),.bool (((D.getD ((((rs.getD (t.toNat) crow0).xs).getD i 0).toNat) 0)+(cs.getD (t.toNat) 0))==(D.getD (t.toNat) 0))] F A ?_ ?_
 exact⟨aJ,aJ,aJ,aJ,aJ,aJ,aJ,aJ,aJ,aJ,aJ,aJ,aJ,aJ,aJ,aJ,aJ,aJ,aJ,aJ,aJ,trivial⟩
 simp only[drop_succ_cons,drop_zero]
 refine go ?_
 refine fO A (fun h8=>go ?_) (fun h8=>go ?_)
 have ag:(D.getD ((((rs.getD (t.toNat) crow0).xs).getD i 0).toNat) 0)+(cs.getD (t.toNat) 0)=D.getD (t.toNat) 0:=beq_iff_eq.1 h8
 exact bO (i+1) (((rs.getD (t.toNat) crow0).xs).getD i 0) ⟨O,.inr ⟨af,O,O,O⟩⟩ O (bV A) (cZ A)
 have ag:(D.getD ((((rs.getD (t.toNat) crow0).xs).getD i 0).toNat) 0)+(cs.getD (t.toNat) 0)≠D.getD (t.toNat) 0:=beq_eq_false_iff_ne.1 h8
 exact bO (i+1) h ⟨O,.inl ⟨O,fun j hj=>by
   by_cases e:j=i
   · subst e;intro h1 h2;omega
   · exact(J.resolve_right (fun q=>O)).2 j O⟩⟩ O (bV rfl) (cZ rfl)
 have a9:¬(0≤D.getD ((((rs.getD (t.toNat) crow0).xs).getD i 0).toNat) 0):=of_decide_eq_false a4
 refine bL 21 [[],[],[0,1],[2],[3],[4],[5],[5],[5],[5],[5],[5],[5],[5],[5],[5],[5],[5],[5],[5],[5,19]] [42,43,44,45,46,47,48,49,50,51,52,53,54,55,56,57,58,59,60,61,62] [M,jI (((rs.getD (t.toNat) crow0).xs).getD i 0),elP M ((((rs.getD (t.toNat) crow0).xs).getD i 0).toNat*1),jI (D.getD ((((rs.getD (t.toNat) crow0).xs).getD i 0).toNat) 0),.bool false,.bool false,undef,undef,undef,undef,undef,undef,undef,undef,undef,undef,undef,undef,undef,undef,.bool false] F A ?_ ?_
 exact⟨aJ,aJ,aJ,aJ,aJ,aJ,aJ,aJ,aJ,aJ,aJ,aJ,aJ,aJ,aJ,aJ,aJ,aJ,aJ,aJ,aJ,trivial⟩
 simp only[drop_succ_cons,drop_zero]
 refine go ?_
 exact bO (i+1) h ⟨O,.inl ⟨O,fun j hj=>by
   by_cases e:j=i
   · subst e;intro h1 h2;omega
   · exact(J.resolve_right (fun q=>O)).2 j O⟩⟩ O (bV rfl) (cZ rfl)
 refine cH A (aH (z:=jI 0) (s:=1) (cs:=(mI [h])) A z8 A V A F A) fun g9=>?_
 refine bT (i:=1) (z:=jI 0) (bytes:=8) A A A A z8 F A A A A (aB 0 A) (bI _) AD (bK zs ([h])) (cB zs ([h])) (fun _=>A) fun ah=>go ?_
 have a5:h≠-1:=fun e=>by
     obtain⟨j9,Y,Z,a0⟩:=hD.next (k:=t.toNat) O O
     rw[X] at Y Z a0
     have B:=U.2 t.toNat O
     rw[X] at B
     exact(J.resolve_right (fun q=>O)).2 j9 (by rw[←B] at Y;omega) (by rw[B];unfold gI at Z;omega) (by rw[B];unfold gI at a0;omega)
 obtain⟨a1,a2,a6,ai⟩:=J.resolve_left (fun q=>a5 q.1)
 exact aQ h ah (zs++([h])) ⟨⟨a1,a2⟩,a6,by rw[length_append];omega,by rw[length_append,length_singleton];omega,fun x hx=>(List.mem_append.1 hx).elim (a3 x) (fun e=>by rw[List.mem_singleton.1 e];exact⟨a1,a2⟩)⟩ O (bV rfl) (eA [1] rfl)
 refine cH A (aH (z:=jI 0) (s:=1) (cs:=(mI [h])) A z8 A V A F A) fun b9=>?_
 refine bT (i:=1) (z:=jI 0) (bytes:=8) A A A A z8 F A A A A (aB 0 A) (bI _) AD (bK zs ([h])) (cB zs ([h])) (fun _=>A) fun aj=>go ?_
 have a5:h≠-1:=fun e=>by
     obtain⟨j9,Y,Z,a0⟩:=hD.next (k:=t.toNat) O O
     rw[X] at Y Z a0
     have B:=U.2 t.toNat O
     rw[X] at B
     exact(J.resolve_right (fun q=>O)).2 j9 (by rw[←B] at Y;omega) (by rw[B];unfold gI at Z;omega) (by rw[B];unfold gI at a0;omega)
 obtain⟨a1,a2,a6,ai⟩:=J.resolve_left (fun q=>a5 q.1)
 exact aQ h aj (zs++([h])) ⟨⟨a1,a2⟩,a6,by rw[length_append];omega,by rw[length_append,length_singleton];omega,fun x hx=>(List.mem_append.1 hx).elim (a3 x) (fun e=>by rw[List.mem_singleton.1 e];exact⟨a1,a2⟩)⟩ O (bV rfl) (eA [1] rfl)
 refine cH A (bU (s:=1) A z8 A) fun ba=>go ?_
 refine fP (α:=Int) (β:=Value) (γ:=List Int) [0,1,2,3,8,9,21] A (fun G uo K=>[rI9 3 uo K,rI9 3 u zs]) (fun G uo K=>[(13,uo),(14,jI G)]) (fun G uo K=>(-1≤G∧G<zs.length)∧(K.length:Int)+G+1=zs.length∧∀x∈K,0≤x∧x<allI d) (fun G uo K=>(G+1).toNat) ((zs.length:Int)-1) _ [] ⟨O,AI,fun x hx=>by cases hx⟩ (bV A) (cZ A) fun G uo K aa=>go ?_
 obtain⟨bb,bc,ab⟩:=aa
 refine eK A A A A A A (fun ak=>go ?_) (fun ak=>go ?_)
 refine aN A (cV 1 A A A A (aB 1 A)) (aN A (lP A A A (aB 1 A)) ?_)
 refine cH A (aH (z:=jI 0) (s:=1) (cs:=(mI [zs.getD (G.toNat) 0])) A z8 A V A F A) fun bd=>?_
 refine bT (i:=1) (z:=jI 0) (bytes:=8) A A A A z8 F A A A A (aB 0 A) (bI _) AD (bK K ([zs.getD (G.toNat) 0])) (cB K ([zs.getD (G.toNat) 0])) (fun _=>A) fun al=>go ?_
 exact aQ (G-1) al (K++([zs.getD (G.toNat) 0])) ⟨O,by rw[length_append,length_singleton];omega,fun x hx=>(List.mem_append.1 hx).elim (ab x) (fun e=>by rw[List.mem_singleton.1 e];exact a3 _ (dV O))⟩ O (bV rfl) (eA [1,0] rfl)
 exact bM (post:=[rI9 3 uo K]) A A (eA [0] A) ⟨K,A,O,ab⟩
open Go.RowKit
structure RgI (d:Dev) (b:Nat) (r:Rt):Prop where
  l1:1≤r.ns.length
  le:r.ns.length≤b
  fl:r.fs.length=r.ns.length
  rg:∀x∈r.ns,0≤x∧x<allI d
theorem RgI.one {d:Dev}{s:Int}(h:0≤s∧s<allI d) (e B:Value) (f:Int):RgI d 1 ⟨e,B,[s],[f]⟩:=⟨Nat.le_refl _,Nat.le_refl _,rfl,by simpa using h⟩
theorem RgI.app {d:Dev}{b:Nat}{r:Rt}(h:RgI d b r) {x f:Int}(B:0≤x∧x<allI d) (D E:Value):RgI d (b+1) ⟨D,E,r.ns++[x],r.fs++[f]⟩:=by
  have K:=h.l1
  have M:=h.le
  have G:=h.fl
  refine⟨by rw[length_append];omega,by rw[length_append,length_singleton];omega,by rw[length_append,length_append,G];rfl,fun y J=>(List.mem_append.1 J).elim (h.rg y) (fun e=>by rw[List.mem_singleton.1 e];exact B)⟩
theorem RgI.mono {d:Dev}{b c:Nat}{r:Rt}(h:RgI d b r) (e:b≤c):RgI d c r:=⟨h.l1,Nat.le_trans h.le e,h.fl,h.rg⟩
theorem Am (d:Dev) (rs:List CRow) (gv:Value) (cs K:List Int) (cv kv:Value) (s0:Int) (w:World) (hd:devB d=true) (a0:RdsCl w gv rs) (a1:GsOk d rs (allI d).toNat) (a5:RdsW w cv 1 cs.length (cs.map (Value.int .i64))) (a2:CsB d cs) (B:RdsW w kv 1 K.length (K.map (Value.int .i64))) (ax:K.length≤120) (aj:∀q∈K,0≤q∧q<allI d) (ak:0≤s0∧s0<allI d) :
   Calls Tryz.prog 32 #[gv,cv,.int .i64 s0,kv] w (Ret w (fun v' post=>∃(r:Rt) (ok:Bool),v'=.tuple #[r.agg,.bool ok]∧post=[rtE r]∧(r.nv.oneCell'=true∧r.fv.oneCell'=true)∧((∀x∈r.ns,0≤x∧x<1000000)∧r.ns.length≤1000000∧r.fs.length≤1000000))):=by
 obtain⟨ay,az⟩:=eM hd
 have b0:=a1.1
 have b2:=a2.1
 refine aY (N:=114) (args:=[gv,cv,jI s0,kv]) Tryz.func32 A A (dW ?_)
 refine cU A (bY (z:=.agg #[.slice none 0 0,.slice none 0 0]) A A) fun Z=>go ?_
 refine cH A (aH (z:=jI 0) (s:=1) (cs:=(mI [s0])) A z8 A V A F A) fun g2=>?_
 refine cH A (aH (z:=jI 0) (s:=1) (cs:=(mI [0])) A z8 A V A F A) fun g3=>?_
 refine aN A (dG (cs:=#[.slice (some ⟨g2,0,none⟩) 1 1,.slice (some ⟨g3,0,none⟩) 1 1]) A A A) (cU A (bY (z:=.agg #[.slice none 0 0,.slice none 0 0]) A A) fun U=>?_)
 refine cA (cs':=#[.slice (some ⟨g2,0,none⟩) 1 1,.slice (some ⟨g3,0,none⟩) 1 1]) (i:=0) (off:=0) (us:=[.slice (some ⟨g2,0,none⟩) 1 1,.slice (some ⟨g3,0,none⟩) 1 1]) A A A A A A A (aC A (aC A bH)) A A A (go ?_)
 refine iG (α:=Nat) (β:=Rt) [0,1,2,3,8,9,10] A (fun i r=>[boxE U #[r.nv,r.fv] 36,rI9 3 r.fv r.fs,rI9 3 r.nv r.ns,boxE Z #[.slice none 0 0,.slice none 0 0] 36]) (fun i r=>[(11,jI (i:Int))]) (fun i r=>i≤K.length∧RgI d (1+7453*i) r) (fun i r=>K.length-i) 0 (Rt.mk (.slice (some ⟨g2,0,none⟩) 1 1) (.slice (some ⟨g3,0,none⟩) 1 1) ([s0]) ([0])) ⟨Nat.zero_le _,RgI.one ak _ _ _⟩ (bV A) (cZ A) fun i r al=>go ?_
 obtain⟨hi,E⟩:=al
 have b3:=E.l1
 have b5:=E.le
 have aw:=E.fl
 refine aW A A A A A A (fun h6=>go ?_) (fun h6=>go ?_)
 have a6:=aj _ (dV (show i<K.length by omega))
 refine aN A (cV 1 A A A A (aE B)) (aN A (lD A A A (aE B)) ?_)
 refine aW A A A A A A (fun h7=>absurd h7 O) (fun h7=>go ?_)
 refine aN A (cV 1 A A A A (aE B)) (aN A (lD A A A (aE B)) (go ?_))
 refine aN A (eV A A A (aE a0.row)) ?_
 refine eK A A A A A A (fun h8=>absurd h8 O) (fun h8=>go ?_)
 refine bL 7 [[],[0],[],[],[2,3],[4],[1,5]] [42,43,44,45,46,47,48] [.pointer (some ⟨U,0+0,none⟩),r.nv,kv,jI (i:Int),elP kv ((i:Int).toNat*1),jI (K.getD i 0),.bool (hasB r.ns (K.getD i 0))] F A ?_ ?_
 exact⟨aJ,aJ,aJ,aJ,aJ,aJ,.inl ⟨A,aF A A (fun w G=>aI (gU r.ns (K.getD i 0) _ w ((aB 2 A) w G) O))⟩,trivial⟩
 simp only[drop_succ_cons,drop_zero]
 refine go ?_
 refine fO A (fun h9=>go ?_) (fun h9=>go ?_)
 exact bO (i+1) (Rt.mk r.nv r.fv r.ns r.fs) ⟨O,E.mono O⟩ O (bV A) (cZ A)
 refine fF A A A (aF A A (fun w G=>Ao d rs _ cs r.ns _ _ w hd (a0.below G.bel) a1 ((aE a5) w G) a2 ((aB 2 A) w G) O (fun k hk=>E.rg _ (dV hk)))) fun X b6 am=>?_
 obtain⟨D,rfl,a7⟩:=am
 have b7:=a7.dfx.len
 refine go ?_
 refine aN A (cV 1 A A A A (aE B)) (aN A (lD A A A (aE B)) (aN A (cV 1 A A A A (aB 0 A)) (aN A (lP A A A (aB 0 A)) ?_)))
 refine aW A A A A A A (fun an=>go ?_) (fun an=>go ?_)
 refine aN A (dG (cs:=#[.slice none 0 0,.slice none 0 0]) A A A) ?_
 refine cA (cs':=#[.slice none 0 0,.slice none 0 0]) (i:=4) (off:=0) (us:=[.slice none 0 0,.slice none 0 0]) A A A A A A A (aC A (aC A bH)) A A A (go ?_)
 refine fH [rowE 3 1 (.slice none 0 0) (([]:List Int).length) (mI ([]:List Int)),rowE 3 1 (.slice none 0 0) (([]:List Int).length) (mI ([]:List Int)),rI9 3 X D,boxE U #[r.nv,r.fv] 36,rI9 3 r.fv r.fs,rI9 3 r.nv r.ns,boxE Z #[.slice none 0 0,.slice none 0 0] 36] (fun w G=>(G.nilRow 3 1).nilRow 3 1) ?_
 refine fH [rtE (Rt.mk (.slice none 0 0) (.slice none 0 0) [] []),rI9 3 X D,boxE U #[r.nv,r.fv] 36,rI9 3 r.fv r.fs,rI9 3 r.nv r.ns,boxE Z #[.slice none 0 0,.slice none 0 0] 36] (fun w G=>Mem.big (ps:=[rowE 3 1 (.slice none 0 0) (([]:List Int).length) (mI ([]:List Int)),rowE 3 1 (.slice none 0 0) (([]:List Int).length) (mI ([]:List Int))]) G) ?_
 exact eQ (rs:=[.cell 8 36,.tmp 9]) (vs:=[.agg #[.slice none 0 0,.slice none 0 0],.bool false]) (post:=[rtE (Rt.mk (.slice none 0 0) (.slice none 0 0) [] [])]) A ⟨⟨Z,0,[.slice none 0 0,.slice none 0 0],A,A,F,F,aM 5 A 0 A⟩,A,trivial⟩ A (eA [0] A) ⟨(Rt.mk (.slice none 0 0) (.slice none 0 0) [] []),false,A,A,⟨A,A⟩,(fun x hx=>by cases hx),Nat.zero_le _,Nat.zero_le _⟩
 refine aN A (cV 1 A A A A (aE B)) (aN A (lD A A A (aE B)) ?_)
 refine fF A A A (aF A A (fun w G=>Al d rs _ cs D _ _ (K.getD i 0) w hd (a0.below G.bel) a1 ((aE a5) w G) a2 ((aB 0 A) w G) a7 a6 O)) fun J b8 ao=>?_
 obtain⟨xs,rfl,⟨b9,ba⟩,ap⟩:=ao
 refine go ?_
 refine iG (α:=Nat) (β:=Int) [0,1,2,3,8,9,10,11,12,13,24,40,48,61] A (fun q f=>[rI9 3 J xs,rI9 3 X D,boxE U #[r.nv,r.fv] 36,rI9 3 r.fv r.fs,rI9 3 r.nv r.ns,boxE Z #[.slice none 0 0,.slice none 0 0] 36]) (fun q f=>[(14,jI f),(15,jI (q:Int))]) (fun q f=>q≤r.ns.length∧0≤f∧f≤q) (fun q f=>r.ns.length-q) 0 0 ⟨Nat.zero_le _,O,O⟩ (bV A) (cZ A) fun q f a8=>go ?_
 obtain⟨hq,bb,bc⟩:=a8
 refine aW A A A A A A (fun aq=>go ?_) (fun aq=>go ?_)
 refine bL 9 [[],[0],[],[1,2],[3],[],[5],[6],[4,7]] [78,79,80,81,82,83,84,85,86] [.pointer (some ⟨U,0+0,none⟩),r.nv,jI (q:Int),elP r.nv ((q:Int).toNat*1),jI (r.ns.getD q 0),J,elP J ((0:Int).toNat*1),jI (xs.getD 0 0),.bool ((r.ns.getD q 0)==(xs.getD 0 0))] F A ?_ ?_
 exact⟨aJ,aJ,aJ,aJ,aJ,aJ,aJ,fL A (aL (u:=jI (xs.getD 0 0)) A A A (aB 0 A) (cJ (show _<xs.length by omega))) A,aJ,trivial⟩
 simp only[drop_succ_cons,drop_zero]
 refine go ?_
 refine fO A (fun a3=>go ?_) (fun a3=>go ?_)
 have a9:r.ns.getD q 0=xs.getD 0 0:=beq_iff_eq.1 a3
 exact bO (q+1) (q:Int) ⟨O,O,O⟩ O (bV A) (cZ A)
 have a9:r.ns.getD q 0≠xs.getD 0 0:=beq_eq_false_iff_ne.1 a3
 exact bO (q+1) f ⟨O,O,O⟩ O (bV A) (cZ A)
 refine fP (α:=Nat) (β:=Rt) (γ:=Int) [0,1,2,3,8,9,10,11,12,13,24,40,48,61,75] A (fun j e Y=>[rI9 3 J xs,rI9 3 X D,boxE U #[e.nv,e.fv] 36,rI9 3 e.fv e.fs,rI9 3 e.nv e.ns,boxE Z #[.slice none 0 0,.slice none 0 0] 36]) (fun j e Y=>[(14,jI Y),(16,jI ((j:Int)+1))]) (fun j e Y=>j+1≤xs.length∧RgI d (1+7453*i+j) e) (fun j e Y=>xs.length-j) 0 (Rt.mk r.nv r.fv r.ns r.fs) f ⟨O,E⟩ (bV A) (cZ A) fun j e Y aa=>go ?_
 obtain⟨hj,M⟩:=aa
 have bd:=M.l1
 have be:=M.le
 have bf:=M.fl
 have bg:((j:Int)+1).toNat=j+1:=O
 refine aW A A A A A A (fun ar=>go ?_) (fun ar=>go ?_)
 refine eI A 7 [0,1,2,3,4,5,6] (List.take 7 _) (List.drop 7 _) [[],[0],[],[],[2,3],[4],[5]] [94,95,96,97,98,99,100] (fun i_ bh v_ p_=>match i_ with|0=>v_=.pointer (some ⟨U,0+0,none⟩)∧p_=[]|1=>v_=e.nv∧p_=[]|2=>v_=J∧p_=[]|3=>v_=jI ((j:Int)+1)∧p_=[]|4=>v_=elP J ((((j:Int)+1)).toNat*1)∧p_=[]|5=>v_=jI (xs.getD ((((j:Int)+1)).toNat) 0)∧p_=[]|6=>IsRow 3 1 1 (mI [xs.getD ((((j:Int)+1)).toNat) 0]) v_ p_|_=>True) (take_append_drop 7 _).symm F F A A ?_ ?_
 refine⟨?_,?_,?_,?_,?_,?_,?_,trivial⟩
 intro vf pf h
 exact fG A (aD [10] A) (aK (fY 0 A A A))
 intro vf pf h
 have e0:=h 0 V
 exact eH A (aX 94 e0.1 (aA _)) (aK (bJ A A A (bA 2 A A)))
 intro vf pf h
 exact fG A (aD [13] A) (aK (aU A))
 intro vf pf h
 exact fG A (aD [16] A) (aK (aU A))
 intro vf pf h
 have e2:=h 2 V
 have e3:=h 3 V
 exact eH A (aX 96 e2.1 (aX 97 e3.1 (aA _))) (aK (cV 1 A A A A (aB 0 A)))
 intro vf pf h
 have e4:=h 4 V
 exact eH A (aX 98 e4.1 (aA _)) (aK (lP A A A (aB 0 A)))
 intro vf pf h
 have e5:=h 5 V
 exact eH A (aX 99 e5.1 (aA _)) (aH (z:=jI 0) (s:=1) (cs:=(mI [xs.getD ((((j:Int)+1)).toNat) 0])) A z8 A V A F A)
 intro vf pf h
 have e1:=h 1 V
 obtain⟨bi,ab,au⟩:=h 6 V
 have q0:=h 0 V
 have q1:=h 1 V
 have q2:=h 2 V
 have q3:=h 3 V
 have q4:=h 4 V
 have q5:=h 5 V
 refine cL (bE [91,75,61,48,40,24,16,14,13,12,11,10,9,8,3,2,1,0] _ (aX 95 e1.1 (aX 100 ab (aA _))) A) (by simp only[au,ab,q0.2,q1.2,q2.2,q3.2,q4.2,q5.2,fS]<;>rfl) ?_
 simp only[drop_succ_cons,drop_zero]
 refine bT (i:=5) (z:=jI 0) (bytes:=8) A A A A z8 F A A A A (aB 0 A) (bI _) AD (bK e.ns ([xs.getD ((((j:Int)+1)).toNat) 0])) (cB e.ns ([xs.getD ((((j:Int)+1)).toNat) 0])) (fun _=>A) fun a4=>go ?_
 refine eE (i:=5) A (fun ac=>?_)
 refine gB (i:=3) (cs':=#[a4,e.fv]) A A A A A A ac A A A A (go ?_)
 refine cH A (aH (z:=jI 0) (s:=1) (cs:=(mI [Y])) A z8 A V A F A) fun bj=>?_
 refine bT (i:=5) (z:=jI 0) (bytes:=8) A A A A z8 F A A A A (aB 0 A) (bI _) AD (bK e.fs ([Y])) (cB e.fs ([Y])) (fun _=>A) fun ad=>go ?_
 refine eE (i:=5) A (fun ae=>?_)
 refine gB (i:=4) (cs':=#[a4,ad]) A A A A A A ae A A A A (go ?_)
 refine aN A (eV A A A (aB 6 A)) (aN A (nQ A A A AN) (go ?_))
 exact aQ (j+1) (Rt.mk a4 ad (e.ns++([xs.getD ((((j:Int)+1)).toNat) 0])) (e.fs++([Y]))) (((e.ns++([xs.getD ((((j:Int)+1)).toNat) 0])).length:Int)-1) ⟨O,M.app (ap _ (dV O)) _ _⟩ O (bV A) (eA [2,0,0,0,0,0] A)
 exact bO (i+1) (Rt.mk e.nv e.fv e.ns e.fs) ⟨O,M.mono O⟩ O (bV A) (eA [2,0,0,0] A)
 refine eE (i:=1) A (fun af=>?_)
 refine eE (i:=2) A (fun ag=>?_)
 refine cA (cs':=#[r.nv,r.fv]) (i:=3) (off:=0) (us:=[r.nv,r.fv]) A A A A A A A (aC ag (aC af bH)) A A A (go ?_)
 refine uX (i:=2) A (fun ah=>?_)
 refine uX (i:=1) A (fun ai=>?_)
 refine bN 4 [3,0,1,2] A A V ?_
 refine fH [rtE r,boxE U #[r.nv,r.fv] 36,boxE Z #[r.nv,r.fv] 36] (fun w G=>Mem.big (ps:=[rI9 3 r.nv r.ns,rI9 3 r.fv r.fs]) G) ?_
 exact eQ (rs:=[.cell 8 36,.tmp 9]) (vs:=[.agg #[r.nv,r.fv],.bool true]) (post:=[rtE r]) A ⟨⟨Z,0,[r.nv,r.fv],A,A,F,F,aM 2 A 0 A⟩,A,trivial⟩ A (eA [0] A) ⟨r,true,A,A,⟨ah,ai⟩,fun x hx=>by have:=E.rg x hx;omega,O,O⟩
theorem xP (d:Dev) (cs D:List Int) (U X:Value) (K:Int) (w:World) (M:devB d=true) (E:RdsW w U 1 cs.length (cs.map (Value.int .i64))) (B:CsB d cs) (Y:RdsW w X 1 D.length (D.map (Value.int .i64))) (Z:D.length≤120) (a0:∀q∈D,0≤q∧q<allI d) :
   Calls Tryz.prog 12 #[.agg #[.int .i64 d.W,.int .i64 d.H,.int .i64 d.T,.int .i64 d.R],U,.int .i64 K,X] w (Ret w (fun v' post=>∃(r:Rt) (ok:Bool),v'=.tuple #[r.agg,.bool ok]∧post=[rtE r]∧(r.nv.oneCell'=true∧r.fv.oneCell'=true)∧((∀x∈r.ns,0≤x∧x<1000000)∧r.ns.length≤1000000∧r.fs.length≤1000000))):=by
 obtain⟨a4,a5⟩:=eM M
 have a6:=B.1
 refine aY (N:=29) (args:=[.agg #[jI d.W,jI d.H,jI d.T,jI d.R],U,jI K,X]) Tryz.func12 A A (dW ?_)
 refine cU A (cE A A) ?_
 intro b1
 refine cU A (bY (z:=.agg #[.slice none 0 0,.slice none 0 0]) A A) ?_
 intro G
 refine bG 1 A (kE (aN A (aP (cs:=[jI d.W,jI d.H,jI d.T,jI d.R]) A A A A A (aM 1 A 0 A)) (aS 1 A ?_)))
 refine cM A (aF A A (fun w e=>aI (sY d cs _ w M (E.below e.bel) O (fun k hk=>by have:=B.2 k hk;omega)))) (aS 2 A (aN A (aP (cs:=[jI d.W,jI d.H,jI d.T,jI d.R]) A A A A A (aM 1 A 0 A)) (aS 1 A ?_)))
 refine cM A (aF A A (fun w e=>aI (iZ d _ w))) (bD (fun h3=>?_) (fun h3=>?_))
 refine bG 2 A (aV A (eC (dW (aN A (aP (cs:=[jI d.W,jI d.H,jI d.T,jI d.R]) A A A A A (aM 1 A 0 A)) ?_))))
 refine fF A A A (aF A A (fun w e=>qQ d w M)) ?_
 intro v4 p5 R6
 obtain⟨gp,gr,rfl,a1,a2⟩:=R6
 refine aS 3 A (fF A A A (aF A A (fun w e=>Am d gr _ cs D _ _ K w M (a1 w (e.holds _ (cT (i:=0) A))) a2 (E.below e.bel) B (Y.below e.bel) Z a0 (by have:=fN (show nodeOkI d K=true by assumption);omega))) ?_)
 intro v7 p8 R9
 obtain⟨r,a7,rfl,rfl,h,J⟩:=R9
 refine aS 2 A (cA (cs':=#[r.nv,r.fv]) (i:=2) (off:=0) (us:=[r.nv,r.fv]) A A A A A A A (aC h.1 (aC h.2 bH)) A A A ?_)
 refine aS 1 A (bD (fun a3=>?_) (fun a3=>?_))
 refine dL ?_
 exact cW (eQ (rs:=[.cell 8 36,.tmp 9]) (vs:=[.agg #[r.nv,r.fv],.bool true]) (post:=[rtE r]) A ⟨⟨G,0,[r.nv,r.fv],A,A,F,F,aM 2 A 0 A⟩,A,trivial⟩ A (eA [0] A) ⟨r,true,A,A,h,J⟩)
 refine dL ?_
 exact cW (eQ (rs:=[.cell 8 36,.tmp 9]) (vs:=[.agg #[r.nv,r.fv],.bool false]) (post:=[rtE r]) A ⟨⟨G,0,[r.nv,r.fv],A,A,F,F,aM 2 A 0 A⟩,A,trivial⟩ A (eA [0] A) ⟨r,false,A,A,h,J⟩)
 refine bG 2 A (aR A (dW (aN A (dG (cs:=#[.slice none 0 0,.slice none 0 0]) A A A) ?_)))
 refine cA (cs':=#[.slice none 0 0,.slice none 0 0]) (i:=0) (off:=0) (us:=[.slice none 0 0,.slice none 0 0]) A A A A A A A (aC A (aC A bH)) A A A (bG 1 A ?_)
 refine cW (cK ?_)
 refine fH [rowE 3 1 (.slice none 0 0) (([]:List Int).length) (mI ([]:List Int)),rowE 3 1 (.slice none 0 0) (([]:List Int).length) (mI ([]:List Int)),boxE G #[.slice none 0 0,.slice none 0 0] 36,boxE b1 #[jI d.W,jI d.H,jI d.T,jI d.R] 25] (fun w e=>(e.nilRow 3 1).nilRow 3 1) ?_
 refine fH [rtE (Rt.mk (.slice none 0 0) (.slice none 0 0) [] []),boxE G #[.slice none 0 0,.slice none 0 0] 36,boxE b1 #[jI d.W,jI d.H,jI d.T,jI d.R] 25] (fun w e=>Mem.big (ps:=[rowE 3 1 (.slice none 0 0) (([]:List Int).length) (mI ([]:List Int)),rowE 3 1 (.slice none 0 0) (([]:List Int).length) (mI ([]:List Int))]) e) ?_
 exact eQ (rs:=[.cell 8 36,.tmp 9]) (vs:=[.agg #[.slice none 0 0,.slice none 0 0],.bool false]) (post:=[rtE (Rt.mk (.slice none 0 0) (.slice none 0 0) [] [])]) A ⟨⟨G,0,[.slice none 0 0,.slice none 0 0],A,A,F,F,aM 1 A 0 A⟩,A,trivial⟩ A (eA [0] A) ⟨(Rt.mk (.slice none 0 0) (.slice none 0 0) [] []),false,A,A,⟨A,A⟩,(fun x hx=>by cases hx),Nat.zero_le _,Nat.zero_le _⟩
theorem zK {N:Nat}{rs:List Rt}(h:rs.length≤1000):∀y,y<N→0≤(useL N rs).getD y 0∧(useL N rs).getD y 0≤1000:=fun y e=>by
  rw[Bx rs e]
  have:=zB rs y
  omega
theorem Bo (d:Dev) (pl:List Int) (pv:Value) (cs:List Cn) (cv:Value) (w:World) (hd:devB d=true) (ar:RdsW w pv 1 pl.length (pl.map (Value.int .i64))) (b2:pl.length≤64) (hc:RdsCn w cv cs) (d6:cs.length≤1000) (au:∀c∈cs,CnB c) (bs:∀rs,¬RsApart d pl cs rs) :
   Calls Tryz.prog 15 #[.agg #[.int .i64 d.W,.int .i64 d.H,.int .i64 d.T,.int .i64 d.R],pv,cv] w (Ret w (fun v' post=>v'=.tuple #[.slice none 0 0,.bool false]∧post=[])):=by
 obtain⟨bt,bu⟩:=eM hd
 refine aY (N:=144) (args:=[.agg #[jI d.W,jI d.H,jI d.T,jI d.R],pv,cv]) Tryz.func15 A A (dW ?_)
 refine cU A (cE A A) ?_
 intro b1
 refine bG 2 A (kE (aN A (aP (cs:=[jI d.W,jI d.H,jI d.T,jI d.R]) A A A A A (aM 0 A 0 A)) ?_))
 refine cM A (aF A A (fun w Z=>aI (eD d w))) (bD (fun h2=>?_) (fun h2=>absurd ((hd).symm.trans h2) V))
 refine aS 3 A (aN A (eV A A A (aE ar)) (aS 1 A ?_))
 refine fF A A A (aF A A (fun w Z=>rK (pl.length:Int) cs _ w O (hc.below Z.bel) O au)) ?_
 intro v3 p4 R5
 obtain⟨bc,rfl,rfl⟩:=R5
 refine aS 1 A (bD (fun h6=>?_) (fun h6=>?_))
 refine bG 1 A (aR A (cF 2 A ?_))
 refine cW (cK ?_)
 exact fU (rs:=[.tmp 6,.tmp 7]) (vs:=[.slice none 0 0,.bool false]) A ⟨A,A,trivial⟩ A (fun w Z=>⟨_,[],A,⟨A,A⟩,Z.sub (eA [] A)⟩)
 refine bG 1 A (aV A (eC (dW ?_)))
 refine rW 3 1 (bG 1 A (dW ?_))
 refine rW 26 1 (bG 1 A (aG (aG (cN 1 A (aN A (eV A A A (aE hc.row)) (bG 1 A (bS ?_)))))))
 refine fK _ hF ?_
 refine mS (α:=Nat) (β:=Value×List Int) (γ:=Value×List CRow) (δ:=List HP) [0,1,2,3,6,7,34,35,36] A (fun i U W ps=>[bigE ps,rS9 26 1 W.1 W.2 crowC,rI9 3 U.1 U.2,boxE b1 #[jI d.W,jI d.H,jI d.T,jI d.R] 25]) (fun i U W ps=>[(8,U.1),(9,W.1),(37,jI (i:Int))]) (fun i U W ps=>i≤cs.length∧SkI d pl cs i U.2 W.2∧∀w,(bigE ps).holds w→RdsAll w W.2) (fun i U W ps=>cs.length-i) 0 (_,[]) (_,[]) [] ⟨Nat.zero_le _,SkI.nil,fun w _=>RdsAll.nil w⟩ (bV A) (cZ A) ?_
 intro i U W ps bv
 obtain⟨hi,af,b3⟩:=bv
 have d7:=af.zl
 have d8:=af.ql
 refine dW ?_
 refine aW A A A A A A (fun bw=>?_) (fun bw=>?_)
 refine dL (tcQ A (eC (jR (dW (aN A (cV 4 A A A A (aE hc.row)) ?_)))))
 refine aN A (cO (us:=[jI ((cs.getD i cn0).nd),jI ((cs.getD i cn0).sb),jI ((cs.getD i cn0).sp),(cs.getD i cn0).kv]) A A A A (aE hc.row) O A (dQ cnC 4 (fun _=>A) cs cn0 (show i<_ by omega) A)) (cU A (bY (z:=.agg #[jI 0,jI 0,jI 0,.slice none 0 0]) A A) ?_)
 intro d9
 refine cA (cs':=#[jI ((cs.getD i cn0).nd),jI ((cs.getD i cn0).sb),jI ((cs.getD i cn0).sp),(cs.getD i cn0).kv]) (i:=0) (off:=0) (us:=[jI ((cs.getD i cn0).nd),jI ((cs.getD i cn0).sb),jI ((cs.getD i cn0).sp),(cs.getD i cn0).kv]) A A A A A A A (aC A (aC A (aC A (aC (hc.at (k:=i) O).one bH)))) A A A (dL (aG ?_))
 have ag:=au _ (eN (d:=cn0) (show i<cs.length by omega))
 have cy:=mN d pl (cs.getD i cn0).ks
 have cz:=ag.kl
 refine eI A 8 [0,1,2,3,4,5,6,7] (List.take 8 _) (List.drop 8 _) [[],[],[],[0,1,2],[],[],[],[4,5,6]] [41,42,43,44,45,46,47,48] (fun i_ a4 Y M=>match i_ with|0=>Y=.agg #[jI d.W,jI d.H,jI d.T,jI d.R]∧M=[]|1=>Y=pv∧M=[]|2=>Y=.agg #[jI ((cs.getD i cn0).nd),jI ((cs.getD i cn0).sb),jI ((cs.getD i cn0).sp),(cs.getD i cn0).kv]∧M=[]|3=>Y=jI (srcN d pl (cs.getD i cn0))∧M=[]|4=>Y=.agg #[jI d.W,jI d.H,jI d.T,jI d.R]∧M=[]|5=>Y=pv∧M=[]|6=>Y=.agg #[jI ((cs.getD i cn0).nd),jI ((cs.getD i cn0).sb),jI ((cs.getD i cn0).sp),(cs.getD i cn0).kv]∧M=[]|7=>(fun v' post=>post=[rI9 3 v' (snkG d pl (cs.getD i cn0).ks)]∧((snkG d pl (cs.getD i cn0).ks).length=0→v'=.slice none 0 0)) Y M|_=>True) (take_append_drop 8 _).symm F F A A ?_ ?_
 refine⟨?_,?_,?_,?_,?_,?_,?_,?_,trivial⟩
 intro vf J D
 exact eH A (aD [3] A) (aK (aP (cs:=[jI d.W,jI d.H,jI d.T,jI d.R]) A A A A A (aM 4 A 0 A)))
 intro vf J D
 exact fG A (aD [1] A) (aK (aU A))
 intro vf J D
 exact eH A (aD [11] A) (aK (aP (cs:=[jI ((cs.getD i cn0).nd),jI ((cs.getD i cn0).sb),jI ((cs.getD i cn0).sp),(cs.getD i cn0).kv]) A A A A A (aM 0 A 0 A)))
 intro vf J D
 have e0:=D 0 V
 have e1:=D 1 V
 have e2:=D 2 V
 exact eH A (aX 41 e0.1 (aX 42 e1.1 (aX 43 e2.1 (aA _)))) (aF A A (fun w Z=>aI (lF d pl _ (cs.getD i cn0) w (ar.below Z.bel) b2 ag.p0 ag.p1 (hc.at (k:=i) O).one)))
 intro vf J D
 exact eH A (aD [3] A) (aK (aP (cs:=[jI d.W,jI d.H,jI d.T,jI d.R]) A A A A A (aM 4 A 0 A)))
 intro vf J D
 exact fG A (aD [1] A) (aK (aU A))
 intro vf J D
 exact eH A (aD [11] A) (aK (aP (cs:=[jI ((cs.getD i cn0).nd),jI ((cs.getD i cn0).sb),jI ((cs.getD i cn0).sp),(cs.getD i cn0).kv]) A A A A A (aM 0 A 0 A)))
 intro vf J D
 have e4:=D 4 V
 have e5:=D 5 V
 have e6:=D 6 V
 exact eH A (aX 45 e4.1 (aX 46 e5.1 (aX 47 e6.1 (aA _)))) (aF A A (fun w Z=>lX d pl _ (cs.getD i cn0) w (ar.below Z.bel) b2 ((hc.at (k:=i) O).below Z.bel) ag.kl ag.kp))
 intro vf J D
 have e3:=D 3 V
 obtain⟨ah,aw⟩:=dU (vf 7)
 obtain⟨da,b4⟩:=dU (J 7)
 have b5:=D 7 V
 rw[aw,b4] at b5
 obtain⟨rfl,b6⟩:=b5
 have q0:=D 0 V
 have q1:=D 1 V
 have q2:=D 2 V
 have q3:=D 3 V
 have q4:=D 4 V
 have q5:=D 5 V
 have q6:=D 6 V
 refine cL (bE [38,37,36,35,34,11,9,8,7,6,3,2,1,0] _ (aX 44 e3.1 (aX 48 aw (aA _))) A) (by simp only[b4,aw,q0.2,q1.2,q2.2,q3.2,q4.2,q5.2,q6.2,fS]<;>rfl) ?_
 simp only[drop_succ_cons,drop_zero]
 refine bG 2 A (aG (aG (cN 1 A ?_)))
 refine aW A A A A A A (fun bx=>?_) (fun bx=>?_)
 refine bG 4 A (aR A (cF 2 A ?_))
 refine cW (cK ?_)
 refine dE (rR ?_)
 refine dE (cK ?_)
 exact fU (rs:=[.tmp 6,.tmp 7]) (vs:=[.slice none 0 0,.bool false]) A ⟨A,A,trivial⟩ A (fun w Z=>⟨_,[],A,⟨A,A⟩,Z.sub (eA [] A)⟩)
 refine aS 2 A (aN A (lN A z8 A A (aB 0 A) b6) ?_)
 refine bD (fun bz=>?_) (fun bz=>?_)
 refine bG 1 A (aR A (cF 2 A ?_))
 refine cW (cK ?_)
 refine dE (rR ?_)
 refine dE (cK ?_)
 exact fU (rs:=[.tmp 6,.tmp 7]) (vs:=[.slice none 0 0,.bool false]) A ⟨A,A,trivial⟩ A (fun w Z=>⟨_,[],A,⟨A,A⟩,Z.sub (eA [] A)⟩)
 refine bG 1 A (aV A (eC (aG (cN 2 A ?_))))
 refine cH A (aH (z:=jI 0) (s:=1) (cs:=(mI [srcN d pl (cs.getD i cn0)])) A z8 A V A F A) ?_
 intro db
 refine bT (i:=5) (z:=jI 0) (bytes:=8) A A A A z8 F A A A A (aB 0 A) (bI _) AD (bK U.2 ([srcN d pl (cs.getD i cn0)])) (cB U.2 ([srcN d pl (cs.getD i cn0)])) (fun _=>A) ?_
 intro c0
 refine bG 1 A (cN 2 A ?_)
 refine cH A (jC A Tryz.underlying57 F A (fun w Z=>(aB 1 A w Z).one)) ?_
 intro dc
 refine eE (i:=2) A (fun b7=>?_)
 refine bT (i:=5) (z:=.slice none 0 0) (bytes:=24) A A A A Tryz.underlying57 F A A A A (aB 0 A) (aC b7 bH) AC (bK W.2 [(CRow.mk ah (snkG d pl (cs.getD i cn0).ks))]) (dP crowC W.2 (CRow.mk ah (snkG d pl (cs.getD i cn0).ks)) _ A) (fun _=>A) ?_
 intro c1
 refine eS 1 A (eB (bP (aN A (eY A A A) (eS 1 A ?_))))
 refine bN 8 [7,6,5,2,4] A A V ?_
 refine dN 2 A ?_
 exact dH (i+1) (c0,U.2++([srcN d pl (cs.getD i cn0)])) (c1,W.2++[(CRow.mk ah (snkG d pl (cs.getD i cn0).ks))]) [bigE ps,rowE 3 1 ah ((snkG d pl (cs.getD i cn0).ks).length) (mI (snkG d pl (cs.getD i cn0).ks))] ⟨O,af.app O,fun w hw=>RdsAll.cons (u:=CRow.mk ah (snkG d pl (cs.getD i cn0).ks)) (b3 w (bF hw eG)) (cI (bF hw (fW eG))) (fun q hq=>(List.mem_append.1 hq).elim .inr (fun h=>.inl (List.mem_singleton.1 h)))⟩ O (bV A) (cZ A)
 refine dL (fcQ A ?_)
 refine bW (fM ?_)
 refine aO (bB (dW (aN A (aP (cs:=[jI d.W,jI d.H,jI d.T,jI d.R]) A A A A A (aM 3 A 0 A)) ?_)))
 refine fF A A A (aF A A (fun w Z=>mC d w hd)) ?_
 intro dd de c2
 obtain⟨b,g,rfl,rfl,c3⟩:=c2
 refine bG 1 A (dW (aN A (aP (cs:=[jI d.W,jI d.H,jI d.T,jI d.R]) A A A A A (aM 4 A 0 A)) ?_))
 refine cM A (aF A A (fun w Z=>aI (iJ d w hd))) (cH A (fB (z:=jI 0) (s:=1) (bytes:=8) (n:=(replicate (allI d).toNat (0:Int)).length) (cs:=(mI (replicate (allI d).toNat (0:Int)))) A z8 A V A A AB AB AF (gW _)) ?_)
 intro a9
 refine bG 1 A (aG (cN 1 A (aN A (eV A A A (aE hc.row)) ?_)))
 refine cH A (fB (z:=.agg #[.slice none 0 0,.slice none 0 0]) (s:=2) (bytes:=48) (n:=(replicate cs.length rt0).length) (cs:=((replicate cs.length rt0).flatMap Rt.cells)) A Tryz.underlying34 A V A A AB AB AF (fZ Rt.cells 2 (fun _=>A) rt0 _ A cs.length)) ?_
 intro a5
 refine bG 1 A (aG (cF 1 A (bS ?_)))
 refine fK _ hF ?_
 refine mS (α:=Nat) (β:=List Int) (γ:=List Rt) (δ:=List HP) [0,1,2,3,6,7,8,9,14,15,16,34,35,36,37,38] A (fun q K rs rp=>[bigE rp,rowE 36 2 (.slice (some ⟨a5,0,none⟩) ((replicate cs.length rt0).length) ((replicate cs.length rt0).length)) rs.length (rs.flatMap Rt.cells),rI9 3 (.slice (some ⟨a9,0,none⟩) ((replicate (allI d).toNat (0:Int)).length) ((replicate (allI d).toNat (0:Int)).length)) K,grE b g,bigE ps,rS9 26 1 W.1 W.2 crowC,rI9 3 U.1 U.2,boxE b1 #[jI d.W,jI d.H,jI d.T,jI d.R] 25]) (fun q K rs rp=>[(17,jI (q:Int))]) (fun q K rs rp=>(1≤q∧q≤13)∧HsB (allI d).toNat (4000*((q:Int)-1)) 0 K∧RsG d pl cs rs 0∧∀w,(bigE rp).holds w→RtAll w rs) (fun q K rs rp=>13-q) 1 _ _ [] ⟨O,HsB.start,(by simpa using (RsG.start (d:=d) (pl:=pl) (cs:=cs))),fun w _=>RtAll.start w _⟩ (bV A) (cZ A) ?_
 intro q K rs rp b8
 obtain⟨⟨df,dg⟩,ai,b9,c4⟩:=b8
 have dh:=ai.len
 have di:=b9.len
 refine aG (aG (cN 1 A ?_))
 refine iA A A A A A A (fun c5=>?_) (fun c5=>?_)
 refine dL (aR A (eC (jR (aG (aG (cN 1 A (aN A (eV A A A (aE hc.row)) (aS 1 A ?_))))))))
 refine dL (bS ?_)
 refine fP (α:=Nat) (β:=List Rt) (γ:=List HP) [0,1,2,3,6,7,8,9,14,15,16,17,34,35,36,37,38,73,77] A (fun k B a3=>[bigE a3,rowE 36 2 (.slice (some ⟨a5,0,none⟩) ((replicate cs.length rt0).length) ((replicate cs.length rt0).length)) B.length (B.flatMap Rt.cells),rI9 3 (.slice (some ⟨a9,0,none⟩) ((replicate (allI d).toNat (0:Int)).length) ((replicate (allI d).toNat (0:Int)).length)) K,grE b g,bigE ps,rS9 26 1 W.1 W.2 crowC,rI9 3 U.1 U.2,boxE b1 #[jI d.W,jI d.H,jI d.T,jI d.R] 25]) (fun k B a3=>[(78,jI (k:Int))]) (fun k B a3=>k≤cs.length∧RsG d pl cs B k∧∀w,(bigE a3).holds w→RtAll w B) (fun k B a3=>cs.length-k) 0 rs rp ⟨Nat.zero_le _,b9,c4⟩ (bV A) (cZ A) ?_
 intro k B a3 ba
 obtain⟨hk,a2,ac⟩:=ba
 have d0:=a2.len
 refine dW ?_
 refine aW A A A A A A (fun c6=>?_) (fun c6=>?_)
 refine dL (tcQ A (eC (jR (dW ?_))))
 obtain hzk9:=af.z k O
 have bb:=af.q k O
 have dj:=(au _ (eN (d:=cn0) (show k<cs.length by omega))).kl
 have d1:=mN d pl (cs.getD k cn0).ks
 have d2:((k:Int)+1).toNat=k+1:=O
 refine bG 2 A (aG ?_)
 refine gZ (l:=[bigE a3,rowE 36 2 (.slice (some ⟨a5,0,none⟩) ((replicate cs.length rt0).length) ((replicate cs.length rt0).length)) B.length (B.flatMap Rt.cells),rI9 3 (.slice (some ⟨a9,0,none⟩) ((replicate (allI d).toNat (0:Int)).length) ((replicate (allI d).toNat (0:Int)).length)) K,grE b g,bigE ps,rS9 26 1 W.1 W.2 crowC,rI9 3 U.1 U.2,boxE b1 #[jI d.W,jI d.H,jI d.T,jI d.R] 25]) A 9 [0,1,2,3,4,5,6,7,8] (List.take 9 _) (List.drop 9 _) [[],[],[],[1,2],[0,3],[],[],[6],[5,7]] [some 81,some 82,some 83,some 84,some 85,some 86,some 87,some 88,some 89] (fun i_ a4 Y M=>match i_ with|0=>IsRow 36 2 0 ([]) Y M|1=>Y=.slice (some ⟨a5,0,none⟩) ((replicate cs.length rt0).length) ((replicate cs.length rt0).length)∧M=[]|2=>Y=jI (k:Int)∧M=[]|3=>Y=slV (.slice (some ⟨a5,0,none⟩) ((replicate cs.length rt0).length) ((replicate cs.length rt0).length)) 0 (k:Int).toNat 2∧M=[]|4=>(∃bd,M=[bd]∧(fun u_ M=>M=rowE 36 2 u_ ((B.take (k:Int).toNat).length) ((B.take (k:Int).toNat).flatMap Rt.cells)) Y bd)|5=>Y=.slice (some ⟨a5,0,none⟩) ((replicate cs.length rt0).length) ((replicate cs.length rt0).length)∧M=[]|6=>Y=jI (k:Int)∧M=[]|7=>Y=jI ((k:Int)+1)∧M=[]|8=>Y=slV (.slice (some ⟨a5,0,none⟩) ((replicate cs.length rt0).length) ((replicate cs.length rt0).length)) ((k:Int)+1).toNat B.length 2∧M=[]|_=>True) [[],[],[],[1,2],[3],[],[],[6],[5,7]] [none,none,none,none,some 0,none,none,none,none] [] [1,2,3,4,5,6,7,8] 11 (take_append_drop 9 _).symm F F F A A ?_ ?_
 refine⟨?_,?_,?_,?_,?_,?_,?_,?_,?_,trivial⟩
 intro vf J G D
 refine cD [] [] A (bC (aA _) z9 ?_)
 exact bU (s:=2) A Tryz.underlying34 A
 intro vf J G D
 refine cD [] [] A (aZ (aD [16] A) ?_)
 exact aK (aU A)
 intro vf J G D
 refine cD [] [] A (aZ (aD [18] A) ?_)
 exact aK (aU A)
 intro vf J G D
 have e1:=D 1 V
 have e2:=D 2 V
 refine cD [1,2] [1,2] A (bC (aX 82 e1.1 (aX 83 e2.1 (aA _))) z9 ?_)
 exact aK (rP A Tryz.underlying34 A A A (aB 1 A) O O)
 intro vf J G D
 obtain⟨c7,ax,be⟩:=D 0 V
 have e3:=D 3 V
 refine Or.inl ⟨A,?_⟩
 show RunM _ _ _ (J 0) (([3]:List Nat).flatMap J++_) (envOf3 _ vf [0,3]++_) _ _
 rw[be];rw[ax]
 exact eJ (aX 81 ax (aX 84 e3.1 (aA _))) (by simp only[e3.2,fS]<;>rfl) (mO (d:=0) (z:=.agg #[.slice none 0 0,.slice none 0 0]) (bytes:=48) (n':=(B.take (k:Int).toNat).length) (xs':=((B.take (k:Int).toNat).flatMap Rt.cells)) A Tryz.underlying34 A A A A (Jy (f:=Rt.cells) (fun _=>A) (aB 1 A) O) (Dw a2.one (fun r hr=>List.mem_of_mem_take hr)) AL (Nat.zero_add _) (nil_append _))
 intro vf J G D
 refine cD [] [] A (aZ (aD [16] A) ?_)
 exact aK (aU A)
 intro vf J G D
 refine cD [] [] A (aZ (aD [18] A) ?_)
 exact aK (aU A)
 intro vf J G D
 have e6:=D 6 V
 refine cD [6] [6] A (aZ (aX 87 e6.1 (aA _)) ?_)
 exact aK (eY A A A)
 intro vf J G D
 have e5:=D 5 V
 have e7:=D 7 V
 refine cD [5,7] [5,7] A (bC (aX 86 e5.1 (aX 88 e7.1 (aA _))) z9 ?_)
 exact aK (nS A Tryz.underlying34 A A A (aB 1 A) O O)
 intro vf J G D
 obtain⟨c7,ax,be⟩:=D 0 V
 obtain⟨dk,c8,bf⟩:=D 4 V
 obtain⟨dl,ay⟩:=dU (vf 4)
 rw[ay] at bf
 subst bf
 have e8:=D 8 V
 have q1:=D 1 V
 have q2:=D 2 V
 have q3:=D 3 V
 have q5:=D 5 V
 have q6:=D 6 V
 have q7:=D 7 V
 have q8:=D 8 V
 refine cL (bE [79,78,77,73,38,37,36,35,34,18,17,16,15,14,9,8,7,6,3,2,1,0] _ (aX 85 ay (aX 89 e8.1 (aA _))) A) (by simp only[c8,ay,q1.2,q2.2,q3.2,q5.2,q6.2,q7.2,q8.2,fS]<;>rfl) ?_
 simp only[drop_succ_cons,drop_zero]
 refine bT (i:=0) (z:=.agg #[.slice none 0 0,.slice none 0 0]) (bytes:=48) (n':=((B.take (k:Int).toNat)++(B.drop ((k:Int)+1).toNat)).length) (xs':=(((B.take (k:Int).toNat)++(B.drop ((k:Int)+1).toNat)).flatMap Rt.cells)) A A A A Tryz.underlying34 F A A A A (Jx (f:=Rt.cells) (fun _=>A) (aB 2 A) O) (Dw a2.one (fun r hr=>List.mem_of_mem_drop hr)) (by first|omega|(simp only[length_take,length_drop,length_append];omega)) (bK (B.take (k:Int).toNat) (B.drop ((k:Int)+1).toNat)) (In Rt.cells (B.take (k:Int).toNat) (B.drop ((k:Int)+1).toNat)) (fun _=>A) ?_
 intro az
 refine bG 1 A (aG ?_)
 refine gZ (l:=[rowE 36 2 az (((B.take (k:Int).toNat)++(B.drop ((k:Int)+1).toNat)).length) (((B.take (k:Int).toNat)++(B.drop ((k:Int)+1).toNat)).flatMap Rt.cells),bigE a3,rowE 36 2 (.slice (some ⟨a5,0,none⟩) ((replicate cs.length rt0).length) ((replicate cs.length rt0).length)) B.length (B.flatMap Rt.cells),rI9 3 (.slice (some ⟨a9,0,none⟩) ((replicate (allI d).toNat (0:Int)).length) ((replicate (allI d).toNat (0:Int)).length)) K,grE b g,bigE ps,rS9 26 1 W.1 W.2 crowC,rI9 3 U.1 U.2,boxE b1 #[jI d.W,jI d.H,jI d.T,jI d.R] 25]) A 23 [0,1,2,3,4,5,6,7,8,9,10,11,12,13,14,15,16,17,18,19,20,21,22] (List.take 23 _) (List.drop 23 _) [[],[],[],[2],[],[3,4],[],[6],[1,5,7],[],[],[9,10],[11],[],[],[13,14],[15],[0,8,12,16],[17],[17,18],[17,18],[],[17,19,21]] [some 92,some 93,some 94,some 95,some 96,some 97,some 98,some 99,some 100,some 101,some 102,some 103,some 104,some 105,some 106,some 107,some 108,some 109,some 91,some 110,some 111,some 20,none] (fun i_ a4 Y M=>match i_ with|0=>Y=pI b∧M=[]|1=>Y=.slice (some ⟨a9,0,none⟩) ((replicate (allI d).toNat (0:Int)).length) ((replicate (allI d).toNat (0:Int)).length)∧M=[]|2=>Y=.slice (some ⟨a9,0,none⟩) ((replicate (allI d).toNat (0:Int)).length) ((replicate (allI d).toNat (0:Int)).length)∧M=[]|3=>Y=jI (K.length:Int)∧M=[]|4=>Y=az∧M=[]|5=>(fun v' post=>post=[rowE 3 1 v' ((useL ((K.length:Int).toNat) ((B.take (k:Int).toNat)++(B.drop ((k:Int)+1).toNat)))).length (((useL ((K.length:Int).toNat) ((B.take (k:Int).toNat)++(B.drop ((k:Int)+1).toNat)))).map (Value.int .i64))]) Y M|6=>Y=jI (q:Int)∧M=[]|7=>Y=jI (5*(q:Int))∧M=[]|8=>(fun v' post=>post=[rowE 3 1 v' ((shL K (useL ((K.length:Int).toNat) ((B.take (k:Int).toNat)++(B.drop ((k:Int)+1).toNat))) (5*(q:Int)) K.length)).length (((shL K (useL ((K.length:Int).toNat) ((B.take (k:Int).toNat)++(B.drop ((k:Int)+1).toNat))) (5*(q:Int)) K.length)).map (Value.int .i64))]) Y M|9=>Y=U.1∧M=[]|10=>Y=jI (k:Int)∧M=[]|11=>Y=elP U.1 ((k:Int).toNat*1)∧M=[]|12=>Y=jI (U.2.getD k 0)∧M=[]|13=>Y=W.1∧M=[]|14=>Y=jI (k:Int)∧M=[]|15=>Y=elP W.1 ((k:Int).toNat*1)∧M=[]|16=>Y=(W.2.getD k crow0).v∧M=[]|17=>(fun v' post=>∃(r:Rt) (ok:Bool),v'=.tuple #[r.agg,.bool ok]∧post=[rtE r]∧(r.nv.oneCell'=true∧r.fv.oneCell'=true)∧(ok=true→GInv d (U.2.getD k 0) (snkG d pl (cs.getD k cn0).ks) (snkG d pl (cs.getD k cn0).ks).length r)) Y M|18=>Y=.tuple #[.agg #[(agR 0 (tpR 0 (gV9 a4 0))),(agR 1 (tpR 0 (gV9 a4 0)))],.bool (boolOf (tpR 1 (gV9 a4 0)))]∧M=[]|19=>Y=.agg #[(agR 0 (tpR 0 (gV9 a4 0))),(agR 1 (tpR 0 (gV9 a4 0)))]∧M=[]|20=>Y=.bool (boolOf (tpR 1 (gV9 a4 0)))∧M=[]|21=>IsBox #[.slice none 0 0,.slice none 0 0] 36 Y M|22=>M=[boxE (blkOf (gV9 a4 2)) #[(agR 0 (tpR 0 (gV9 a4 0))),(agR 1 (tpR 0 (gV9 a4 0)))] 36]|_=>True) [[],[],[],[2],[],[3,4],[],[6],[1,5,7],[],[],[9,10],[11],[],[],[13,14],[15],[0,8,12,16],[17],[17,18],[17,18],[],[17,19]] [none,none,none,none,none,none,none,none,none,none,none,none,none,none,none,none,none,none,none,none,none,none,some 21] [] [0,1,2,3,4,5,6,7,8,9,10,11,12,13,14,15,16,17,18,19,20,22] 24 (take_append_drop 23 _).symm F F F A A ?_ ?_
 refine⟨?_,?_,?_,?_,?_,?_,?_,?_,?_,?_,?_,?_,?_,?_,?_,?_,?_,?_,?_,?_,?_,?_,?_,trivial⟩
 intro vf J G D
 refine cD [] [] A (aZ (aD [14] A) ?_)
 exact aK (aU A)
 intro vf J G D
 refine cD [] [] A (aZ (aD [15] A) ?_)
 exact aK (aU A)
 intro vf J G D
 refine cD [] [] A (aZ (aD [15] A) ?_)
 exact aK (aU A)
 intro vf J G D
 have e2:=D 2 V
 refine cD [2] [2] A (bC (aX 94 e2.1 (aA _)) z9 ?_)
 exact aK (eV A A A (aB 3 A))
 intro vf J G D
 refine cD [] [] A (aZ (aD [19] A) ?_)
 exact aK (aU A)
 intro vf J G D
 have e3:=D 3 V
 have e4:=D 4 V
 refine cD [3,4] [3,4] A (bC (aX 95 e3.1 (aX 96 e4.1 (aA _))) z9 ?_)
 exact aF A A (fun w Z=>wL (K.length:Int) ((B.take (k:Int).toNat)++(B.drop ((k:Int)+1).toNat)) _ w O ((ac w (Z.holds _ (cT (i:=1) A))).rds (aB 0 A w Z) (fun r hr=>Ea r hr)) (by first|omega|(rw[length_append,length_take,length_drop];omega)) (fun j hj=>by have h9:=a2.ok _ ((fun r hr=>Ea r hr) _ (eN (d:=rt0) hj));rw[show(K.length:Int).toNat=(allI d).toNat by omega];exact h9))
 intro vf J G D
 refine cD [] [] A (aZ (aD [17] A) ?_)
 exact aK (aU A)
 intro vf J G D
 have e6:=D 6 V
 refine cD [6] [6] A (aZ (aX 98 e6.1 (aA _)) ?_)
 exact aK (eZ A A A AE)
 intro vf J G D
 have e1:=D 1 V
 obtain⟨bg,ad⟩:=dU (vf 5)
 obtain⟨c9,aj⟩:=dU (J 5)
 have ak:=D 5 V
 rw[ad,aj] at ak
 subst ak
 have e7:=D 7 V
 refine cD [1,5,7] [1,5,7] A (bQ (aX 93 e1.1 (aX 97 ad (aX 99 e7.1 (aA _)))) (by simp only[aj,ad,e1.2,e7.2,fS]<;>rfl) ?_)
 exact aF A A (fun w Z=>sZ K (useL ((K.length:Int).toNat) ((B.take (k:Int).toNat)++(B.drop ((k:Int)+1).toNat))) _ _ (5*(q:Int)) w ((aB 4 A) w Z) O (fun i hi=>⟨ai.lo i O,by have:=ai.at_ i (Nat.zero_le _) O;omega⟩) ((aB 0 A) w Z) (by rw[xK];omega) (fun i hi=>by rw[xK] at hi;have:=zK (rs:=(B.take k++B.drop (k+1))) (by rw[length_append,length_take,length_drop];omega) i hi;exact this) AE)
 intro vf J G D
 refine cD [] [] A (aZ (aD [8] A) ?_)
 exact aK (aU A)
 intro vf J G D
 refine cD [] [] A (aZ (aD [18] A) ?_)
 exact aK (aU A)
 intro vf J G D
 have e9:=D 9 V
 have ca:=D 10 V
 refine cD [9,10] [9,10] A (bC (aX 101 e9.1 (aX 102 ca.1 (aA _))) z9 ?_)
 exact aK (cV 1 A A A A (aB 7 A))
 intro vf J G D
 have cb:=D 11 V
 refine cD [11] [11] A (bC (aX 103 cb.1 (aA _)) z9 ?_)
 exact aK (lD A A A (aB 7 A))
 intro vf J G D
 refine cD [] [] A (aZ (aD [9] A) ?_)
 exact aK (aU A)
 intro vf J G D
 refine cD [] [] A (aZ (aD [18] A) ?_)
 exact aK (aU A)
 intro vf J G D
 have cc:=D 13 V
 have cd:=D 14 V
 refine cD [13,14] [13,14] A (bC (aX 105 cc.1 (aX 106 cd.1 (aA _))) z9 ?_)
 exact aK (cV 1 A A A A (aB 6 A))
 intro vf J G D
 have ce:=D 15 V
 refine cD [15] [15] A (bC (aX 107 ce.1 (aA _)) z9 ?_)
 exact aK (aL (u:=(W.2.getD k crow0).v) A A A (aB 6 A) (dF crowC (fun r=>r.v) (fun _=>A) W.2 crow0 (show k<_ by omega)))
 intro vf J G D
 have e0:=D 0 V
 obtain⟨bh,ae⟩:=dU (vf 8)
 obtain⟨cf,al⟩:=dU (J 8)
 have am:=D 8 V
 rw[ae,al] at am
 subst am
 have bi:=D 12 V
 have bj:=D 16 V
 refine cD [0,8,12,16] [0,8,12,16] A (bQ (aX 92 e0.1 (aX 100 ae (aX 104 bi.1 (aX 108 bj.1 (aA _))))) (by simp only[al,ae,e0.2,bi.2,bj.2,fS]<;>rfl) ?_)
 exact aF A A (fun w Z=>(by
         have h9:=Fw d b g (shL K (useL ((K.length:Int).toNat) ((B.take (k:Int).toNat)++(B.drop ((k:Int)+1).toNat))) (5*(q:Int)) K.length) (snkG d pl (cs.getD k cn0).ks) _ _ (srcN d pl (cs.getD k cn0)) w (yS 5 rfl w Z) c3 hd ((aB 0 rfl) w Z) (by rw[Ce];omega) (sh_rng (fun y hy=>ai.lo y O) (fun y hy=>use_nn y O) O) (by rw[←bb];exact(fun w Z=>(b3 w (Z.holds _ (cT (i:=6) rfl))).at (k:=k) O) w Z) O (fun q hq=>nN hq) ⟨hzk9.2,xM hzk9.2⟩ (Jl hzk9.2)
         rw[←hzk9.1] at h9
         exact h9))
 intro vf J G D
 obtain⟨an,E⟩:=dU (vf 17)
 obtain⟨ao,X⟩:=dU (J 17)
 have a0:=D 17 V
 rw[E,X] at a0
 obtain⟨r,ap,rfl,rfl,a8,a6⟩:=a0
 rw[hzk9.1] at a6
 refine cD [17] [17] A (bQ (aX 109 E (aA _)) (by simp only[X,E,fS]<;>rfl) ?_)
 exact dM (aK (aU A)) (fun _ _ h=>⟨h.1.trans (by show _=(.tuple #[.agg #[(agR 0 (tpR 0 (vf 17))),(agR 1 (tpR 0 (vf 17)))],.bool (boolOf (tpR 1 (vf 17)))]:Value);first|(rw[E];done)|(rw[E];rfl)),h.2⟩)
 intro vf J G D
 obtain⟨an,E⟩:=dU (vf 17)
 obtain⟨ao,X⟩:=dU (J 17)
 have a0:=D 17 V
 rw[E,X] at a0
 obtain⟨r,ap,rfl,rfl,a8,a6⟩:=a0
 rw[hzk9.1] at a6
 have ab:(vf 18)=.tuple #[.agg #[(agR 0 (tpR 0 (vf 17))),(agR 1 (tpR 0 (vf 17)))],.bool (boolOf (tpR 1 (vf 17)))]∧(J 18)=[]:=D 18 V
 rw[E] at ab
 refine cD [17,18] [17,18] A (bQ (aX 91 ab.1 (aA _)) (by simp only[X,E,ab.2,fS]<;>rfl) ?_)
 exact dM (aK (aU A)) (fun _ _ h=>⟨h.1.trans (by show _=(.agg #[(agR 0 (tpR 0 (vf 17))),(agR 1 (tpR 0 (vf 17)))]:Value);first|(rw[E];done)|(rw[E];rfl)),h.2⟩)
 intro vf J G D
 obtain⟨an,E⟩:=dU (vf 17)
 obtain⟨ao,X⟩:=dU (J 17)
 have a0:=D 17 V
 rw[E,X] at a0
 obtain⟨r,ap,rfl,rfl,a8,a6⟩:=a0
 rw[hzk9.1] at a6
 have ab:(vf 18)=.tuple #[.agg #[(agR 0 (tpR 0 (vf 17))),(agR 1 (tpR 0 (vf 17)))],.bool (boolOf (tpR 1 (vf 17)))]∧(J 18)=[]:=D 18 V
 rw[E] at ab
 refine cD [17,18] [17,18] A (bQ (aX 91 ab.1 (aA _)) (by simp only[X,E,ab.2,fS]<;>rfl) ?_)
 exact dM (aK (aU A)) (fun _ _ h=>⟨h.1.trans (by show _=(.bool (boolOf (tpR 1 (vf 17))):Value);first|(rw[E];done)|(rw[E];rfl)),h.2⟩)
 intro vf J G D
 refine cD [] [] A (bC (aA _) z9 ?_)
 exact bY (z:=.agg #[.slice none 0 0,.slice none 0 0]) A A
 intro vf J G D
 obtain⟨an,E⟩:=dU (vf 17)
 obtain⟨ao,X⟩:=dU (J 17)
 have a0:=D 17 V
 rw[E,X] at a0
 obtain⟨r,ap,rfl,rfl,a8,a6⟩:=a0
 rw[hzk9.1] at a6
 have b0:(vf 19)=.agg #[(agR 0 (tpR 0 (vf 17))),(agR 1 (tpR 0 (vf 17)))]∧(J 19)=[]:=D 19 V
 rw[E] at b0
 obtain⟨bk,aa,aq⟩:=D 21 V
 refine Or.inl ⟨A,?_⟩
 show RunM _ _ _ (J 21) (([17,19]:List Nat).flatMap J++_) (envOf3 _ vf [17,19,21]++_) _ _
 rw[aq]
 exact eJ (aX 20 aa (aX 110 b0.1 (aA _))) (by simp only[X,E,b0.2,fS]<;>rfl) (jD (hO (us:=[r.nv,r.fv]) (off:=0) 0 A A A A A A (aC a8.1 (aC a8.2 bH)) A A) (fun Y M h=>by show M=[boxE (blkOf (vf 21)) #[(agR 0 (tpR 0 (vf 17))),(agR 1 (tpR 0 (vf 17)))] 36];rw[E,aa];exact h))
 intro vf J G D
 obtain⟨bg,ad⟩:=dU (vf 5)
 obtain⟨c9,aj⟩:=dU (J 5)
 have ak:=D 5 V
 rw[ad,aj] at ak
 subst ak
 obtain⟨bh,ae⟩:=dU (vf 8)
 obtain⟨cf,al⟩:=dU (J 8)
 have am:=D 8 V
 rw[ae,al] at am
 subst am
 obtain⟨an,E⟩:=dU (vf 17)
 obtain⟨ao,X⟩:=dU (J 17)
 have a0:=D 17 V
 rw[E,X] at a0
 obtain⟨r,ap,rfl,rfl,a8,a6⟩:=a0
 rw[hzk9.1] at a6
 have bl:(vf 20)=.bool (boolOf (tpR 1 (vf 17)))∧(J 20)=[]:=D 20 V
 rw[E] at bl
 obtain⟨bk,aa,aq⟩:=D 21 V
 have bm:(J 22)=[boxE (blkOf (vf 21)) #[(agR 0 (tpR 0 (vf 17))),(agR 1 (tpR 0 (vf 17)))] 36]:=D 22 V
 rw[E,aa] at bm
 have bn:=bm
 have q0:=D 0 V
 have q1:=D 1 V
 have q2:=D 2 V
 have q3:=D 3 V
 have q4:=D 4 V
 have q6:=D 6 V
 have q7:=D 7 V
 have q9:=D 9 V
 have cg:=D 10 V
 have ch:=D 11 V
 have ci:=D 12 V
 have cj:=D 13 V
 have ck:=D 14 V
 have cl:=D 15 V
 have cm:=D 16 V
 have cn:=D 18 V
 have co:=D 19 V
 have cp:=D 20 V
 refine cL (bE [19,18,17,16,15,14,9,8,7,6,3,2,1,0] _ (aX 20 aa (bE [79,78,77,73,38,37,36,35,34] _ (aX 111 bl.1 (aA _)) A)) A) (by simp only[aj,ad,al,ae,X,E,bn,q0.2,q1.2,q2.2,q3.2,q4.2,q6.2,q7.2,q9.2,cg.2,ch.2,ci.2,cj.2,ck.2,cl.2,cm.2,cn.2,co.2,cp.2,fS]<;>rfl) ?_
 simp only[drop_succ_cons,drop_zero]
 refine aS 1 A (bD (fun cq=>?_) (fun cq=>?_))
 refine dL (aG (cF 2 A (aV A (eC (bP ?_)))))
 refine aS 2 A (aN A (aP (cs:=[r.nv,r.fv]) A A A A A (aM 3 A 0 A)) (aN A (cV 2 A A A A (aB 6 A)) ?_))
 refine jO (i:=6) (us:=[r.nv,r.fv]) (n':=(B.set k r).length) (xs':=((B.set k r).flatMap Rt.cells)) (l':=[rowE 3 1 bg ((useL ((K.length:Int).toNat) ((B.take (k:Int).toNat)++(B.drop ((k:Int)+1).toNat))).length) ((useL ((K.length:Int).toNat) ((B.take (k:Int).toNat)++(B.drop ((k:Int)+1).toNat))).map (Value.int .i64)),rowE 3 1 bh ((shL K (useL ((K.length:Int).toNat) ((B.take (k:Int).toNat)++(B.drop ((k:Int)+1).toNat))) (5*(q:Int)) K.length).length) ((shL K (useL ((K.length:Int).toNat) ((B.take (k:Int).toNat)++(B.drop ((k:Int)+1).toNat))) (5*(q:Int)) K.length).map (Value.int .i64)),rtE r,boxE bk #[r.nv,r.fv] 36,rowE 36 2 az (((B.take (k:Int).toNat)++(B.drop ((k:Int)+1).toNat)).length) (((B.take (k:Int).toNat)++(B.drop ((k:Int)+1).toNat)).flatMap Rt.cells),bigE a3,rowE 36 2 (.slice (some ⟨a5,0,none⟩) ((replicate cs.length rt0).length) ((replicate cs.length rt0).length)) ((B.set k r).length) ((B.set k r).flatMap Rt.cells),rI9 3 (.slice (some ⟨a9,0,none⟩) ((replicate (allI d).toNat (0:Int)).length) ((replicate (allI d).toNat (0:Int)).length)) K,grE b g,bigE ps,rS9 26 1 W.1 W.2 crowC,rI9 3 U.1 U.2,boxE b1 #[jI d.W,jI d.H,jI d.T,jI d.R] 25]) A A A A A A (aC a8.1 (aC a8.2 bH)) A AA AG List.length_set.symm (jB Rt.cells 2 (fun _=>A) _ r AA) A ?_
 refine cP (eB (bP (aN A (eY A A A) (eS 1 A ?_))))
 refine bN 13 [12,11,10,9,8,7,6,2,5] A A V ?_
 refine dN 2 A ?_
 exact aQ (k+1) (B.set k r) [bigE a3,rtE r] ⟨O,a2.set ⟨bt,bu⟩ O a8 (a6 I),fun w hw=>(ac w (bF hw eG)).set (Hj (bF hw (fW eG)))⟩ O (bV A) (cZ A)
 refine dL (aG (cF 2 A (aR A (aG (cN 2 A ?_)))))
 refine dL ?_
 refine cW (cK ?_)
 refine dE (rR ?_)
 refine dE (cK ?_)
 refine dE (rR ?_)
 refine dE (cK ?_)
 exact fU (rs:=[.tmp 6,.tmp 7]) (vs:=[.slice none 0 0,.bool false]) A ⟨A,A,trivial⟩ A (fun w Z=>⟨_,[],A,⟨A,A⟩,Z.sub (eA [] A)⟩)
 refine dL (fcQ A ?_)
 refine bW (fM ?_)
 refine aO (bB (cF 1 A (aG (aG (cN 1 A (aN A (eV A A A (aB 2 A)) (aS 1 A ?_)))))))
 refine fF A A A (aF A A (fun w Z=>wL (K.length:Int) B _ w O ((ac w (Z.holds _ (cT (i:=0) A))).rds (aB 1 A w Z) (fun r hr=>hr)) (by first|omega|(rw[length_append,length_take,length_drop];omega)) (fun j hj=>by have h9:=a2.ok _ ((fun r hr=>hr) _ (eN (d:=rt0) hj));rw[show(K.length:Int).toNat=(allI d).toNat by omega];exact h9))) ?_
 intro cr dm ct
 subst ct
 refine aN A (eV A A A (aB 0 A)) (bG 1 A (bS ?_))
 have dn:((useL ((K.length:Int).toNat) B)).length=(allI d).toNat:=by rw[xK];omega
 refine fP (α:=Nat) (β:=Bool) (γ:=List Int) [0,1,2,3,6,7,8,9,14,15,16,17,34,35,36,37,38,73,77,78,79,122,123] A (fun x ov a1=>[rowE 3 1 cr ((useL ((K.length:Int).toNat) B).length) (mI (useL ((K.length:Int).toNat) B)),bigE a3,rowE 36 2 (.slice (some ⟨a5,0,none⟩) ((replicate cs.length rt0).length) ((replicate cs.length rt0).length)) B.length (B.flatMap Rt.cells),rI9 3 (.slice (some ⟨a9,0,none⟩) ((replicate (allI d).toNat (0:Int)).length) ((replicate (allI d).toNat (0:Int)).length)) a1,grE b g,bigE ps,rS9 26 1 W.1 W.2 crowC,rI9 3 U.1 U.2,boxE b1 #[jI d.W,jI d.H,jI d.T,jI d.R] 25]) (fun x ov a1=>[(22,.bool ov),(124,jI (x:Int))]) (fun x ov a1=>x≤(allI d).toNat∧HsB (allI d).toNat (4000*((q:Int)-1)) x a1∧(ov=false→∀y,y<x→¬1<((useL ((K.length:Int).toNat) B)).getD y 0)) (fun x ov a1=>(allI d).toNat-x) 0 false K ⟨Nat.zero_le _,ai,fun _ y hy=>O⟩ (bV A) (cZ A) ?_
 intro x ov a1 bo
 obtain⟨hx,a7,bp⟩:=bo
 have d3:=a7.len
 refine dW ?_
 refine aW A A A A A A (fun cu=>?_) (fun cu=>?_)
 refine dL (tcQ A (eC (jR (aG (cN 1 A ?_)))))
 have bq:=zK (N:=(allI d).toNat) (rs:=B) O x O
 have d4:=a7.at_ x (Nat.le_refl _) O
 have d5:=a7.lo x O
 have br:(K.length:Int).toNat=(allI d).toNat:=O
 rw[←br] at bq
 refine aN A (cV 1 A A A A (aB 0 A)) (aN A (aL (u:=jI ((useL ((K.length:Int).toNat) B).getD x 0)) A A A (aB 0 A) (cJ (show _<(useL ((K.length:Int).toNat) B).length by omega))) (bG 2 A (aG (cN 1 A ?_))))
 refine fJ A A A A A A (fun cw=>?_) (fun cw=>?_)
 refine dL (aR A (cF 1 A (cN 2 A (aN A (cV 1 A A A A (aB 3 A)) (aN A (lD A A A (aB 3 A)) ?_)))))
 refine aS 1 A (aN A (nK A A A) (aN A (eZ A A A AE) (aN A (eY A A A) (aN A (cV 1 A A A A (aB 3 A)) ?_))))
 refine dS (i:=3) (n':=(a1.set x ((a1.getD x 0)+(4*(((useL ((K.length:Int).toNat) B).getD x 0)-1)))).length) (xs':=((a1.set x ((a1.getD x 0)+(4*(((useL ((K.length:Int).toNat) B).getD x 0)-1)))).map (Value.int .i64))) A A A A A A A A AA List.length_set.symm (eP _ _ _) A (cP (eB (bP (aN A (eY A A A) (eS 1 A ?_)))))
 exact aQ (x+1) true (a1.set x ((a1.getD x 0)+(4*(((useL ((K.length:Int).toNat) B).getD x 0)-1)))) ⟨O,a7.put O O O,fun e=>by cases e⟩ O (bV A) (cZ A)
 refine dL (jQ A (eB (bP (aN A (eY A A A) (eS 1 A ?_)))))
 exact aQ (x+1) ov a1 ⟨O,a7.next,fun e y hy=>by
   by_cases e2:y=x
   · subst e2;omega
   · exact bp e y O⟩ O (bV rfl) (cZ rfl)
 refine dL (fcQ A ?_)
 refine bW (fM ?_)
 refine aO (bB (aG (cN 1 A ?_)))
 refine bD (fun cx=>?_) (fun cx=>?_)
 refine bG 1 A (jQ A (eB (cN 1 A (aN A (eY A A A) (eS 1 A ?_)))))
 exact dH (q+1) a1 B a3 ⟨O,by have h9:=a7.fin;rw[show(4000*((q:Int)-1)+4000)=4000*(((q+1:Nat):Int)-1) by omega] at h9;exact h9,a2.again,ac⟩ O (bV rfl) (eA [1,0,0,0,0,0,0,0] rfl)
 refine bG 1 A (aR A (cF 3 A ?_))
 refine cW (dE ?_)
 refine rR ?_
 refine dE (cK ?_)
 exfalso
 exact bs _ (a2.all O (fun y hy=>by have h9:=bp (by simpa using ‹_›) y O;rw[show(K.length:Int).toNat=(allI d).toNat by omega] at h9;exact h9))
 refine dL (aV A ?_)
 refine bW (fM ?_)
 refine aO (bB (cF 2 A ?_))
 exact cW (fU (rs:=[.tmp 6,.tmp 7]) (vs:=[.slice none 0 0,.bool false]) A ⟨A,A,trivial⟩ A (fun w Z=>⟨_,[],A,⟨A,A⟩,Z.sub (eA [] A)⟩))
open Go.RowKit
theorem It {d:Dev}{pl:List Int}{cs:List Cn}{ws:List Int}(h:crB d pl cs ws=true):(ws.length:Int)<scI d pl cs ws:=by
  unfold crB at h
  rw[and_eq_true,decide_eq_true_eq] at h
  exact h.2
theorem qB {α:Type}{P:α→Prop}{xs:List α}{x:α}(h:∀y∈xs,P y) (B:P x):∀y∈xs++[x],P y:=fun y D=>(List.mem_append.1 D).elim (h y) (fun e=>by rw[List.mem_singleton.1 e];exact B)
theorem wH (a:Option Addr) (e h:Nat) (z:List Int) (w:World) (hb:BRow .u8 w a e h z) (G:e≤1048576) :
   Calls Tryz.prog 5 #[.slice a e h] w (Ret w (fun M U=>∃(d:Dev) (zs ws:List Int) (cs:List Cn) (B D E:Value) (ps:List HP),M=.tuple #[.agg #[.int .i64 d.W,.int .i64 d.H,.int .i64 d.T,.int .i64 d.R],B,D,E]∧U=[bigE ps]∧(∀w,(bigE ps).holds w→RdsW w B 1 zs.length (zs.map (Value.int .i64))∧RdsCn w D cs∧RdsW w E 1 ws.length (ws.map (Value.int .i64)))∧zs.length≤64∧(∀c∈cs,CnB c)∧cs.length≤200∧ws.length≤20000)):=by
 refine aY (N:=13) (args:=[.slice a e h]) Tryz.func5 A A (dW ?_)
 refine cU A (bY (z:=.agg #[jI 0,jI 0,jI 0,jI 0]) A A) fun X=>go ?_
 refine fF A A A (aF A A (fun w Y=>Kd (hb.below Y.bel) G)) fun v2 p3 R4=>?_
 obtain⟨J,rfl,rfl⟩:=R4
 refine cR (R:=(fun M U=>∃(d:Dev) (zs ws:List Int) (cs:List Cn) (B D E:Value) (ps:List HP),M=.tuple #[.agg #[jI d.W,jI d.H,jI d.T,jI d.R],B,D,E]∧U=bigE [curE J a e h,bigE ps]∧(∀w,(bigE ps).holds w→RdsW w B 1 zs.length (mI zs)∧RdsCn w D cs∧RdsW w E 1 ws.length (mI ws))∧zs.length≤64∧(∀c∈cs,CnB c)∧cs.length≤200∧ws.length≤20000)) 0 A A A A A (fun l' w Y=>Ak J a e h z _ _ _ Y hb) fun v5 p6 R7=>?_
 obtain⟨d,zs,ws,cs,B,D,E,K,rfl,rfl,Z,a0,a1,a2,a3⟩:=R7
 refine dO (l':=[bigE [curE J a e h,bigE K],boxE X #[jI 0,jI 0,jI 0,jI 0] 25]) A (go ?_)
 refine cA (cs':=#[jI d.W,jI d.H,jI d.T,jI d.R]) (i:=1) (off:=0) (us:=[jI d.W,jI d.H,jI d.T,jI d.R]) A A A A A A A (aC A (aC A (aC A (aC A bH)))) A A A (go ?_)
 refine bN 2 [1,0] A A V ?_
 refine fH [curE J a e h,bigE K,boxE X #[jI d.W,jI d.H,jI d.T,jI d.R] 25] gN ?_
 exact eQ (rs:=[.cell 2 25,.tmp 3,.tmp 4,.tmp 5]) (vs:=[.agg #[jI d.W,jI d.H,jI d.T,jI d.R],B,D,E]) (post:=[bigE K]) A ⟨⟨X,0,[jI d.W,jI d.H,jI d.T,jI d.R],A,A,F,F,aM 2 A 0 A⟩,A,A,A,trivial⟩ A (eA [1] A) ⟨d,zs,ws,cs,_,_,_,K,A,A,Z,a0,a1,a2,a3⟩
theorem walk_FnCutRefutes (a0:Option Addr) (U a6:Nat) (z0:List Int) (w:World) (ae:BRow .u8 w a0 U a6 z0) :
   Calls Tryz.prog 3 #[.slice a0 U a6] w (Ans w (.bool true)):=by
 refine aY (N:=123) (args:=[.slice a0 U a6]) Tryz.func3 A A (cF 1 A (aG (aG (cN 1 A ?_))))
 refine cM A (aF A A (fun w G=>aI (hH (La a0 U a6 w (ae.len_le))))) (bD (fun h1=>?_) (fun h1=>?_))
 have aw:=of_decide_eq_true h1
 refine dL (aR A (cF 1 A ?_))
 refine cW (cK ?_)
 exact aT A A A
 have aw:=of_decide_eq_false h1
 refine dL (aV A (eC (aG (cN 1 A ?_))))
 refine fF A A A (aF A A (fun w G=>wH a0 U a6 z0 w (ae.below G.bel) O)) ?_
 intro v2 p3 R4
 obtain⟨d,zs,ws,cs,zv,cv,wv,dp,rfl,rfl,E,a1,a4,c0,c1⟩:=R4
 refine aS 5 A (cU A (bY (z:=.agg #[jI 0,jI 0,jI 0,jI 0]) A A) ?_)
 intro b5
 refine cA (cs':=#[jI d.W,jI d.H,jI d.T,jI d.R]) (i:=0) (off:=0) (us:=[jI d.W,jI d.H,jI d.T,jI d.R]) A A A A A A A (aC A (aC A (aC A (aC A bH)))) A A A (bG 3 A (dW (aN A (aP (cs:=[jI d.W,jI d.H,jI d.T,jI d.R]) A A A A A (aM 0 A 0 A)) (aS 3 A ?_))))
 refine cM A (aF A A (fun w G=>aI (pC d zs _ cs _ ws _ w (E w (G.holds _ (cT (i:=1) A))).1 a1 (E w (G.holds _ (cT (i:=1) A))).2.1 O a4 (E w (G.holds _ (cT (i:=1) A))).2.2 O))) (bD (fun h6=>?_) (fun h6=>?_))
 have a9:=h6
 obtain⟨hd,ax⟩:=tB (nF.1 a9).1
 obtain⟨ay,az⟩:=eM hd
 have b0:=It a9
 refine bG 1 A (kE (aN A (aP (cs:=[jI d.W,jI d.H,jI d.T,jI d.R]) A A A A A (aM 0 A 0 A)) (aS 3 A ?_)))
 refine cM A (aF A A (fun w G=>aI (sQ d zs _ cs _ ws _ w (E w (G.holds _ (cT (i:=1) A))).1 a1 (E w (G.holds _ (cT (i:=1) A))).2.1 O a4 (E w (G.holds _ (cT (i:=1) A))).2.2 O))) (bD (fun h7=>?_) (fun h7=>absurd ((h6).symm.trans h7) V))
 have a9:=h7
 obtain⟨hd,ax⟩:=tB (nF.1 a9).1
 obtain⟨ay,az⟩:=eM hd
 have b0:=It a9
 refine aS 1 A (aN A (kL (m:=true) (n:=true) A Tryz.underlying4 A A) (dL (aV A (eC (kE (eS 2 A ?_))))))
 refine bB (aV A (eC (dW ?_)))
 refine cH A (bU (s:=1) A z8 A) ?_
 intro g8
 refine bG 1 A (aG (cF 1 A (bS ?_)))
 refine fP (α:=Nat) (β:=Value) (γ:=List Int) [0,2,3,4,5,6,7,17,36,38] A (fun q u cx=>[rI9 3 u cx,boxE b5 #[jI d.W,jI d.H,jI d.T,jI d.R] 25,bigE dp]) (fun q u cx=>[(8,u),(9,jI (q:Int))]) (fun q u cx=>q≤(allI d).toNat∧cx.length=q∧∀k,k<cx.length→1≤cx.getD k 0∧cx.getD k 0≤9) (fun q u cx=>(allI d).toNat-q) 0 _ [] ⟨Nat.zero_le _,A,fun k hk=>by cases hk⟩ (bV A) (cZ A) ?_
 intro q u cx b1
 obtain⟨hq,b2,am⟩:=b1
 have bv:=cod_le ae q
 refine aG (aG (cN 1 A (aN A (aP (cs:=[jI d.W,jI d.H,jI d.T,jI d.R]) A A A A A (aM 1 A 0 A)) ?_)))
 refine cM A (aF A A (fun w G=>aI (eX d hd w))) (aW A A A A A A (fun b3=>?_) (fun b3=>?_))
 refine dL (aR A (eC (jR (cN 3 A ?_))))
 refine cM A (aF A A (fun w G=>aI (at_ans ae q O w G))) (aN A (fT A A A AE) (aN A (eY A A A) ?_))
 refine cH A (aH (z:=jI 0) (s:=1) (cs:=(mI [1+((cod z0 U q:Int) % 9)])) A z8 A V A F A) ?_
 intro c2
 refine bT (i:=1) (z:=jI 0) (bytes:=8) A A A A z8 F A A A A (aB 0 A) (bI _) AD (bK cx ([1+((cod z0 U q:Int) % 9)])) (cB cx ([1+((cod z0 U q:Int) % 9)])) (fun _=>A) ?_
 intro b4
 refine eS 1 A (eB (cN 1 A (aN A (eY A A A) (eS 1 A ?_))))
 exact aQ (q+1) b4 (cx++([1+((cod z0 U q:Int) % 9)])) ⟨O,by rw[length_append,b2];rfl,fun k hk=>by
   rw[length_append,length_singleton] at hk
   rw[oT O];split
   · omega
   · exact am k O⟩ O (bV rfl) (eA [1,0,0] rfl)
 refine dL (aV A ?_)
 refine bW (fM ?_)
 refine aO (bB (dW ?_))
 refine cH A (bU (s:=2) A Tryz.underlying34 A) ?_
 intro c3
 refine bG 1 A (aG (cF 1 A (bS ?_)))
 have b6:CsB d cx:=⟨O,am⟩
 refine fK _ hF ?_
 refine fP (α:=Nat) (β:=Value×List Rt) (γ:=List HP) [0,2,3,4,5,6,7,8,17,36,38,54] A (fun i R rp=>[bigE rp,rowE 36 2 R.1 R.2.length (R.2.flatMap Rt.cells),rI9 3 u cx,boxE b5 #[jI d.W,jI d.H,jI d.T,jI d.R] 25,bigE dp]) (fun i R rp=>[(10,R.1),(11,jI (i:Int))]) (fun i R rp=>i≤cs.length∧R.2.length=i∧(∀r∈R.2,(∀x∈r.ns,0≤x∧x<1000000)∧r.ns.length≤1000000∧r.fs.length≤1000000)∧∀w,(bigE rp).holds w→RtAll w R.2) (fun i R rp=>cs.length-i) 0 (_,[]) [] ⟨Nat.zero_le _,A,(fun r hr=>by cases hr),fun w _ r hr=>by cases hr⟩ (bV A) (cZ A) ?_
 intro i R rp an
 obtain⟨hi,c4,aj,ak⟩:=an
 refine aG (aG (cN 2 A ?_))
 refine aN A (eV A A A (fun w G=>(E w (G.holds _ (cT (i:=4) A))).2.1.row)) (aW A A A A A A (fun b7=>?_) (fun b7=>?_))
 refine dL (aR A (eC (jR (aG ?_))))
 have ac:=a4 _ (eN (d:=cn0) (show i<cs.length by omega))
 have bw:=mN d zs (cs.getD i cn0).ks
 have bx:=ac.kl
 refine gZ (l:=[bigE rp,rowE 36 2 R.1 R.2.length (R.2.flatMap Rt.cells),rI9 3 u cx,boxE b5 #[jI d.W,jI d.H,jI d.T,jI d.R] 25,bigE dp]) A 22 [0,1,2,3,4,5,6,7,8,9,10,11,12,13,14,15,16,17,18,19,20,21] (List.take 22 _) (List.drop 22 _) [[],[],[],[],[],[],[4,5],[6],[2,3,7],[],[],[],[],[11,12],[13],[9,10,14],[0,1,8,15],[16],[16,17],[16,17],[],[16,18,20]] [some 73,some 74,some 75,some 76,some 77,some 78,some 79,some 80,some 81,some 82,some 83,some 84,some 85,some 86,some 87,some 88,some 89,some 72,some 90,some 91,some 12,none] (fun i_ a5 Z Y=>match i_ with|0=>Z=.agg #[jI d.W,jI d.H,jI d.T,jI d.R]∧Y=[]|1=>Z=u∧Y=[]|2=>Z=.agg #[jI d.W,jI d.H,jI d.T,jI d.R]∧Y=[]|3=>Z=zv∧Y=[]|4=>Z=cv∧Y=[]|5=>Z=jI (i:Int)∧Y=[]|6=>Z=elP cv ((i:Int).toNat*4)∧Y=[]|7=>Z=.agg #[jI ((cs.getD i cn0).nd),jI ((cs.getD i cn0).sb),jI ((cs.getD i cn0).sp),(cs.getD i cn0).kv]∧Y=[]|8=>Z=jI (srcN d zs (cs.getD i cn0))∧Y=[]|9=>Z=.agg #[jI d.W,jI d.H,jI d.T,jI d.R]∧Y=[]|10=>Z=zv∧Y=[]|11=>Z=cv∧Y=[]|12=>Z=jI (i:Int)∧Y=[]|13=>Z=elP cv ((i:Int).toNat*4)∧Y=[]|14=>Z=.agg #[jI ((cs.getD i cn0).nd),jI ((cs.getD i cn0).sb),jI ((cs.getD i cn0).sp),(cs.getD i cn0).kv]∧Y=[]|15=>(fun v' post=>post=[rI9 3 v' (snkG d zs (cs.getD i cn0).ks)]) Z Y|16=>(fun v' post=>∃(r:Rt) (ok:Bool),v'=.tuple #[r.agg,.bool ok]∧post=[rtE r]∧(r.nv.oneCell'=true∧r.fv.oneCell'=true)∧((∀x∈r.ns,0≤x∧x<1000000)∧r.ns.length≤1000000∧r.fs.length≤1000000)) Z Y|17=>Z=.tuple #[.agg #[(agR 0 (tpR 0 (gV9 a5 0))),(agR 1 (tpR 0 (gV9 a5 0)))],.bool (boolOf (tpR 1 (gV9 a5 0)))]∧Y=[]|18=>Z=.agg #[(agR 0 (tpR 0 (gV9 a5 0))),(agR 1 (tpR 0 (gV9 a5 0)))]∧Y=[]|19=>Z=.bool (boolOf (tpR 1 (gV9 a5 0)))∧Y=[]|20=>IsBox #[.slice none 0 0,.slice none 0 0] 36 Z Y|21=>Y=[boxE (blkOf (gV9 a5 2)) #[(agR 0 (tpR 0 (gV9 a5 0))),(agR 1 (tpR 0 (gV9 a5 0)))] 36]|_=>True) [[],[],[],[],[],[],[4,5],[6],[2,3,7],[],[],[],[],[11,12],[13],[9,10,14],[0,1,8,15],[16],[16,17],[16,17],[],[16,18]] [none,none,none,none,none,none,none,none,none,none,none,none,none,none,none,none,none,none,none,none,none,some 20] [] [0,1,2,3,4,5,6,7,8,9,10,11,12,13,14,15,16,17,18,19,21] 23 (take_append_drop 22 _).symm F F F A A ?_ ?_
 refine⟨?_,?_,?_,?_,?_,?_,?_,?_,?_,?_,?_,?_,?_,?_,?_,?_,?_,?_,?_,?_,?_,?_,trivial⟩
 intro vf M J D
 refine cD [] [] A (bC (aD [3] A) z9 ?_)
 exact aK (aP (cs:=[jI d.W,jI d.H,jI d.T,jI d.R]) A A A A A (aM 3 A 0 A))
 intro vf M J D
 refine cD [] [] A (aZ (aD [8] A) ?_)
 exact aK (aU A)
 intro vf M J D
 refine cD [] [] A (bC (aD [3] A) z9 ?_)
 exact aK (aP (cs:=[jI d.W,jI d.H,jI d.T,jI d.R]) A A A A A (aM 3 A 0 A))
 intro vf M J D
 refine cD [] [] A (aZ (aD [4] A) ?_)
 exact aK (aU A)
 intro vf M J D
 refine cD [] [] A (aZ (aD [5] A) ?_)
 exact aK (aU A)
 intro vf M J D
 refine cD [] [] A (aZ (aD [11] A) ?_)
 exact aK (aU A)
 intro vf M J D
 have e4:=D 4 V
 have e5:=D 5 V
 refine cD [4,5] [4,5] A (bC (aX 77 e4.1 (aX 78 e5.1 (aA _))) z9 ?_)
 exact aK (cV 4 A A A A (fun w G=>(E w (G.holds _ (cT (i:=4) A))).2.1.row))
 intro vf M J D
 have e6:=D 6 V
 refine cD [6] [6] A (bC (aX 79 e6.1 (aA _)) z9 ?_)
 exact aK (cO (us:=[jI ((cs.getD i cn0).nd),jI ((cs.getD i cn0).sb),jI ((cs.getD i cn0).sp),(cs.getD i cn0).kv]) A A A A (fun w G=>(E w (G.holds _ (cT (i:=4) A))).2.1.row) O A (dQ cnC 4 (fun _=>A) cs cn0 (show i<_ by omega) A))
 intro vf M J D
 have e2:=D 2 V
 have e3:=D 3 V
 have e7:=D 7 V
 refine cD [2,3,7] [2,3,7] A (bC (aX 75 e2.1 (aX 76 e3.1 (aX 80 e7.1 (aA _)))) z9 ?_)
 exact(aF A A (fun w G=>aI (lM d zs _ (cs.getD i cn0) w (E w (G.holds _ (cT (i:=4) A))).1 a1 ac.p0 ac.p1 ((E w (G.holds _ (cT (i:=4) A))).2.1.at (k:=i) O).one)))
 intro vf M J D
 refine cD [] [] A (bC (aD [3] A) z9 ?_)
 exact aK (aP (cs:=[jI d.W,jI d.H,jI d.T,jI d.R]) A A A A A (aM 3 A 0 A))
 intro vf M J D
 refine cD [] [] A (aZ (aD [4] A) ?_)
 exact aK (aU A)
 intro vf M J D
 refine cD [] [] A (aZ (aD [5] A) ?_)
 exact aK (aU A)
 intro vf M J D
 refine cD [] [] A (aZ (aD [11] A) ?_)
 exact aK (aU A)
 intro vf M J D
 have b8:=D 11 V
 have ba:=D 12 V
 refine cD [11,12] [11,12] A (bC (aX 84 b8.1 (aX 85 ba.1 (aA _))) z9 ?_)
 exact aK (cV 4 A A A A (fun w G=>(E w (G.holds _ (cT (i:=4) A))).2.1.row))
 intro vf M J D
 have bb:=D 13 V
 refine cD [13] [13] A (bC (aX 86 bb.1 (aA _)) z9 ?_)
 exact aK (cO (us:=[jI ((cs.getD i cn0).nd),jI ((cs.getD i cn0).sb),jI ((cs.getD i cn0).sp),(cs.getD i cn0).kv]) A A A A (fun w G=>(E w (G.holds _ (cT (i:=4) A))).2.1.row) O A (dQ cnC 4 (fun _=>A) cs cn0 (show i<_ by omega) A))
 intro vf M J D
 have e9:=D 9 V
 have bc:=D 10 V
 have bd:=D 14 V
 refine cD [9,10,14] [9,10,14] A (bC (aX 82 e9.1 (aX 83 bc.1 (aX 87 bd.1 (aA _)))) z9 ?_)
 exact aF A A (fun w G=>lZ d zs _ (cs.getD i cn0) w (E w (G.holds _ (cT (i:=4) A))).1 a1 ((E w (G.holds _ (cT (i:=4) A))).2.1.at (k:=i) O) ac.kl ac.kp)
 intro vf M J D
 have e0:=D 0 V
 have e1:=D 1 V
 have e8:=D 8 V
 obtain⟨be,a3⟩:=dU (vf 15)
 obtain⟨bf,a7⟩:=dU (M 15)
 have ad:=D 15 V
 rw[a3,a7] at ad
 obtain rfl:=ad
 refine cD [0,1,8,15] [0,1,8,15] A (bQ (aX 73 e0.1 (aX 74 e1.1 (aX 81 e8.1 (aX 88 a3 (aA _))))) (by simp only[a7,a3,e0.2,e1.2,e8.2,fS]<;>rfl) ?_)
 exact aF A A (fun w G=>xP d cx (snkG d zs (cs.getD i cn0).ks) _ _ (srcN d zs (cs.getD i cn0)) w hd ((aB 3 A) w G) b6 ((aB 0 A) w G) O (fun q hq=>nN hq))
 intro vf M J D
 obtain⟨af,B⟩:=dU (vf 16)
 obtain⟨ag,K⟩:=dU (M 16)
 have X:=D 16 V
 rw[B,K] at X
 obtain⟨r,ah,rfl,rfl,a2,ab⟩:=X
 refine cD [16] [16] A (bQ (aX 89 B (aA _)) (by simp only[K,B,fS]<;>rfl) ?_)
 exact dM (aK (aU A)) (fun _ _ h=>⟨h.1.trans (by show _=(.tuple #[.agg #[(agR 0 (tpR 0 (vf 16))),(agR 1 (tpR 0 (vf 16)))],.bool (boolOf (tpR 1 (vf 16)))]:Value);first|(rw[B];done)|(rw[B];rfl)),h.2⟩)
 intro vf M J D
 obtain⟨af,B⟩:=dU (vf 16)
 obtain⟨ag,K⟩:=dU (M 16)
 have X:=D 16 V
 rw[B,K] at X
 obtain⟨r,ah,rfl,rfl,a2,ab⟩:=X
 have aa:(vf 17)=.tuple #[.agg #[(agR 0 (tpR 0 (vf 16))),(agR 1 (tpR 0 (vf 16)))],.bool (boolOf (tpR 1 (vf 16)))]∧(M 17)=[]:=D 17 V
 rw[B] at aa
 refine cD [16,17] [16,17] A (bQ (aX 72 aa.1 (aA _)) (by simp only[K,B,aa.2,fS]<;>rfl) ?_)
 exact dM (aK (aU A)) (fun _ _ h=>⟨h.1.trans (by show _=(.agg #[(agR 0 (tpR 0 (vf 16))),(agR 1 (tpR 0 (vf 16)))]:Value);first|(rw[B];done)|(rw[B];rfl)),h.2⟩)
 intro vf M J D
 obtain⟨af,B⟩:=dU (vf 16)
 obtain⟨ag,K⟩:=dU (M 16)
 have X:=D 16 V
 rw[B,K] at X
 obtain⟨r,ah,rfl,rfl,a2,ab⟩:=X
 have aa:(vf 17)=.tuple #[.agg #[(agR 0 (tpR 0 (vf 16))),(agR 1 (tpR 0 (vf 16)))],.bool (boolOf (tpR 1 (vf 16)))]∧(M 17)=[]:=D 17 V
 rw[B] at aa
 refine cD [16,17] [16,17] A (bQ (aX 72 aa.1 (aA _)) (by simp only[K,B,aa.2,fS]<;>rfl) ?_)
 exact dM (aK (aU A)) (fun _ _ h=>⟨h.1.trans (by show _=(.bool (boolOf (tpR 1 (vf 16))):Value);first|(rw[B];done)|(rw[B];rfl)),h.2⟩)
 intro vf M J D
 refine cD [] [] A (bC (aA _) z9 ?_)
 exact bY (z:=.agg #[.slice none 0 0,.slice none 0 0]) A A
 intro vf M J D
 obtain⟨af,B⟩:=dU (vf 16)
 obtain⟨ag,K⟩:=dU (M 16)
 have X:=D 16 V
 rw[B,K] at X
 obtain⟨r,ah,rfl,rfl,a2,ab⟩:=X
 have al:(vf 18)=.agg #[(agR 0 (tpR 0 (vf 16))),(agR 1 (tpR 0 (vf 16)))]∧(M 18)=[]:=D 18 V
 rw[B] at al
 obtain⟨bg,a8,ai⟩:=D 20 V
 refine Or.inl ⟨A,?_⟩
 show RunM _ _ _ (M 20) (([16,18]:List Nat).flatMap M++_) (envOf3 _ vf [16,18,20]++_) _ _
 rw[ai]
 exact eJ (aX 12 a8 (aX 90 al.1 (aA _))) (by simp only[K,B,al.2,fS]<;>rfl) (jD (hO (us:=[r.nv,r.fv]) (off:=0) 0 A A A A A A (aC a2.1 (aC a2.2 bH)) A A) (fun Z Y h=>by show Y=[boxE (blkOf (vf 20)) #[(agR 0 (tpR 0 (vf 16))),(agR 1 (tpR 0 (vf 16)))] 36];rw[B,a8];exact h))
 intro vf M J D
 obtain⟨be,a3⟩:=dU (vf 15)
 obtain⟨bf,a7⟩:=dU (M 15)
 have ad:=D 15 V
 rw[a3,a7] at ad
 obtain rfl:=ad
 obtain⟨af,B⟩:=dU (vf 16)
 obtain⟨ag,K⟩:=dU (M 16)
 have X:=D 16 V
 rw[B,K] at X
 obtain⟨r,ah,rfl,rfl,a2,ab⟩:=X
 have ao:(vf 19)=.bool (boolOf (tpR 1 (vf 16)))∧(M 19)=[]:=D 19 V
 rw[B] at ao
 obtain⟨bg,a8,ai⟩:=D 20 V
 have ap:(M 21)=[boxE (blkOf (vf 20)) #[(agR 0 (tpR 0 (vf 16))),(agR 1 (tpR 0 (vf 16)))] 36]:=D 21 V
 rw[B,a8] at ap
 have aq:=ap
 have q0:=D 0 V
 have q1:=D 1 V
 have q2:=D 2 V
 have q3:=D 3 V
 have q4:=D 4 V
 have q5:=D 5 V
 have q6:=D 6 V
 have q7:=D 7 V
 have q8:=D 8 V
 have q9:=D 9 V
 have bh:=D 10 V
 have bi:=D 11 V
 have bj:=D 12 V
 have bk:=D 13 V
 have bl:=D 14 V
 have bm:=D 17 V
 have bn:=D 18 V
 have bo:=D 19 V
 refine cL (bE [11,10,8,7,6,5,4,3,2,0] _ (aX 12 a8 (bE [69,54,38,36,17] _ (aX 91 ao.1 (aA _)) A)) A) (by simp only[a7,a3,K,B,aq,q0.2,q1.2,q2.2,q3.2,q4.2,q5.2,q6.2,q7.2,q8.2,q9.2,bh.2,bi.2,bj.2,bk.2,bl.2,bm.2,bn.2,bo.2,fS]<;>rfl) ?_
 simp only[drop_succ_cons,drop_zero]
 refine aS 1 A (bD (fun bp=>?_) (fun bp=>?_))
 refine dL (cN 1 A (aN A (aP (cs:=[r.nv,r.fv]) A A A A A (aM 2 A 0 A)) ?_))
 refine cH A (aH (z:=.agg #[.slice none 0 0,.slice none 0 0]) (s:=2) (cs:=[r.nv,r.fv]) A Tryz.underlying34 A V A F A) ?_
 intro c5
 refine bT (i:=5) (z:=.agg #[.slice none 0 0,.slice none 0 0]) (bytes:=48) A A A A Tryz.underlying34 F A A A A (aB 0 A) (aC a2.1 (aC a2.2 bH)) AC (bK R.2 [r]) (dP Rt.cells R.2 r _ A) (fun _=>A) ?_
 intro bq
 refine eS 1 A (eB (cN 1 A (aN A (eY A A A) (eS 1 A ?_))))
 refine bN 9 [8,7,6,5,2,4] A A V ?_
 refine dN 2 A ?_
 exact aQ (i+1) (bq,R.2++[r]) [bigE rp,rtE r] ⟨O,by show List.length (_++[_])=_;rw[length_append,length_singleton];omega,qB aj ab,fun w hw=>qB (ak w (bF hw eG)) (Hj (bF hw (fW eG)))⟩ O (bV rfl) (cZ rfl)
 refine dL (cN 1 A (aN A (aP (cs:=[r.nv,r.fv]) A A A A A (aM 2 A 0 A)) ?_))
 refine cH A (aH (z:=.agg #[.slice none 0 0,.slice none 0 0]) (s:=2) (cs:=[r.nv,r.fv]) A Tryz.underlying34 A V A F A) ?_
 intro c6
 refine bT (i:=5) (z:=.agg #[.slice none 0 0,.slice none 0 0]) (bytes:=48) A A A A Tryz.underlying34 F A A A A (aB 0 A) (aC a2.1 (aC a2.2 bH)) AC (bK R.2 [r]) (dP Rt.cells R.2 r _ A) (fun _=>A) ?_
 intro br
 refine eS 1 A (eB (cN 1 A (aN A (eY A A A) (eS 1 A ?_))))
 refine bN 9 [8,7,6,5,2,4] A A V ?_
 refine dN 2 A ?_
 exact aQ (i+1) (br,R.2++[r]) [bigE rp,rtE r] ⟨O,by show List.length (_++[_])=_;rw[length_append,length_singleton];omega,qB aj ab,fun w hw=>qB (ak w (bF hw eG)) (Hj (bF hw (fW eG)))⟩ O (bV rfl) (cZ rfl)
 refine dL (aV A ?_)
 refine bW (fM ?_)
 refine aO (bB (dW (aN A (aP (cs:=[jI d.W,jI d.H,jI d.T,jI d.R]) A A A A A (aM 3 A 0 A)) (aS 2 A ?_))))
 refine fF A A A (aF A A (fun w G=>Bo d zs _ cs _ w hd (E w (G.holds _ (cT (i:=4) A))).1 a1 (E w (G.holds _ (cT (i:=4) A))).2.1 O a4 (fun rs h=>h.no a9))) ?_
 intro c7 c8 bs
 obtain⟨rfl,rfl⟩:=bs
 refine bG 5 A (aG (cN 3 A (aN A (aP (cs:=[jI d.W,jI d.H,jI d.T,jI d.R]) A A A A A (aM 3 A 0 A)) (aS 3 A ?_))))
 refine fF A A A (aF A A (fun w G=>wF d zs _ cs _ R.2 _ w hd (E w (G.holds _ (cT (i:=4) A))).1 a1 (E w (G.holds _ (cT (i:=4) A))).2.1 O a4 ((ak w (G.holds _ (cT (i:=0) A))).rds (aB 1 A w G) (fun r hr=>hr)) aj O)) ?_
 intro c9 ca bt
 obtain⟨b9,rfl,rfl,bu⟩:=bt
 obtain rfl:b9=false:=Bool.eq_false_iff.2 (fun e=>(bu e).no a9)
 refine aS 3 A (aN A (aP (cs:=[jI d.W,jI d.H,jI d.T,jI d.R]) A A A A A (aM 3 A 0 A)) (aS 3 A ?_))
 refine cM A (aF A A (fun w G=>aI (oY d zs _ cs _ ws _ w (E w (G.holds _ (cT (i:=4) A))).1 a1 (E w (G.holds _ (cT (i:=4) A))).2.1 O a4 (E w (G.holds _ (cT (i:=4) A))).2.2 O))) (aS 1 A ?_)
 refine aN A (eV A A A (fun w G=>(E w (G.holds _ (cT (i:=4) A))).2.2)) (fJ A A A A A A (fun ar=>?_) (fun ar=>absurd ar O))
 refine bG 2 A ?_
 exact cW (aT A A A)
 refine bG 1 A (kE (aN A (aP (cs:=[jI d.W,jI d.H,jI d.T,jI d.R]) A A A A A (aM 0 A 0 A)) (aS 3 A ?_)))
 refine cM A (aF A A (fun w G=>aI (sQ d zs _ cs _ ws _ w (E w (G.holds _ (cT (i:=1) A))).1 a1 (E w (G.holds _ (cT (i:=1) A))).2.1 O a4 (E w (G.holds _ (cT (i:=1) A))).2.2 O))) (bD (fun au=>absurd ((h6).symm.trans au) V) (fun au=>?_))
 refine aS 1 A (aN A (kL (m:=false) (n:=false) A Tryz.underlying4 A A) (dL (aV A (eC (kE (eS 2 A ?_))))))
 refine bB (aR A (aG ?_))
 have bz:((scI d zs cs ws)==(scI d zs cs ws))=true:=beq_iff_eq.2 O
 refine bL 11 [[],[],[],[],[0,1,2,3],[],[],[],[],[5,6,7,8],[4,9]] [39,40,41,42,43,44,45,46,47,48,49] [.agg #[jI d.W,jI d.H,jI d.T,jI d.R],zv,cv,wv,jI (scI d zs cs ws),.agg #[jI d.W,jI d.H,jI d.T,jI d.R],zv,cv,wv,jI (scI d zs cs ws),.bool true] F A ?_ ?_
 exact⟨aJ,aJ,aJ,aJ,.inl ⟨A,aF A A (fun w G=>aI (oY d zs _ cs _ ws _ w (E w (G.holds _ (cT (i:=1) A))).1 a1 (E w (G.holds _ (cT (i:=1) A))).2.1 O a4 (E w (G.holds _ (cT (i:=1) A))).2.2 O))⟩,aJ,aJ,aJ,aJ,.inl ⟨A,aF A A (fun w G=>aI (jS d zs _ cs _ ws _ w (E w (G.holds _ (cT (i:=1) A))).1 a1 (E w (G.holds _ (cT (i:=1) A))).2.1 O a4 (E w (G.holds _ (cT (i:=1) A))).2.2 O))⟩,aJ,trivial⟩
 simp only[drop_succ_cons,drop_zero]
 refine bG 1 A ?_
 refine cW (cK ?_)
 exact aT A A A
end Go.Proofs.YtkbplgggflljlaaGreat
