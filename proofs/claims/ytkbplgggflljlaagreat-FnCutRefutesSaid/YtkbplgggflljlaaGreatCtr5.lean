/- Texts of the law FnCutRefutes, part 5: what it uses. -/
import Derived.Test.YtkbplgggflljlaaGreatCtr4
set_option linter.unusedVariables false
set_option linter.unusedSimpArgs false
set_option maxHeartbeats 4000000
set_option maxRecDepth 100000
namespace Go.Proofs.YtkbplgggflljlaaGreat
open Go.RowKit Go.ChangeShapes
open Go.RowKit
open Go.Maps
open List (drop_succ_cons drop_zero getD_eq_getElem?_getD length_append length_cons length_drop length_map length_replicate length_set length_singleton length_take map_append map_cons map_nil mem_cons_of_mem mem_cons_self mem_range mem_singleton nil_append replicate sublist_append_right take_append_drop take_length)
open Bool (and_eq_true eq_false_or_eq_true)
theorem mC (d:Dev) (w:World) (hd:devB d=true) :
   Calls Tryz.prog 23 #[.agg #[.int .i64 d.W,.int .i64 d.H,.int .i64 d.T,.int .i64 d.R]] w (Ret w (fun v' post=>∃(b:Nat) (g:Gr),v'=.pointer (some ⟨b,0,none⟩)∧post=[grE b g]∧GrOk d (allI d).toNat g)):=by
 obtain⟨b0,b2⟩:=eM hd
 have b3:(replicate (allI d).toNat ir0).length=(allI d).toNat:=length_replicate
 refine aY (N:=50) (args:=[.agg #[jI d.W,jI d.H,jI d.T,jI d.R]]) Tryz.func23 A A (dW ?_)
 refine cU A (cE A A) fun b1=>go ?_
 refine eI A 7 [0,1,2,3,4,5,6] (List.take 7 _) (List.drop 7 _) [[],[0],[],[2],[3],[1,4],[1,4,5]] [8,9,10,11,12,13,14] (fun i_ a4 U K=>match i_ with|0=>U=.agg #[jI d.W,jI d.H,jI d.T,jI d.R]∧K=[]|1=>(fun v' post=>∃es:List IR,post=[irsE v' es]∧SOk d (allI d).toNat (allI d).toNat es∧v'.oneCell'=true) U K|2=>U=.agg #[jI d.W,jI d.H,jI d.T,jI d.R]∧K=[]|3=>U=jI (allI d)∧K=[]|4=>IsRow 26 1 ((replicate (allI d).toNat ir0).length) ((replicate (allI d).toNat ir0).flatMap irC) U K|5=>U=.agg #[(gV9 a4 0),(gV9 a4 1)]∧K=[]|6=>IsBox #[(gV9 a4 0),(gV9 a4 1)] 83 U K|_=>True) (take_append_drop 7 _).symm F F A A ?_ ?_
 refine⟨?_,?_,?_,?_,?_,?_,?_,trivial⟩
 intro vf E e
 exact eH A (aD [1] A) (aK (aP (cs:=[jI d.W,jI d.H,jI d.T,jI d.R]) A A A A A (aM 0 A 0 A)))
 intro vf E e
 have e0:=e 0 V
 exact eH A (aX 8 e0.1 (aA _)) (aF A A (fun w Z=>vU d w hd))
 intro vf E e
 exact eH A (aD [1] A) (aK (aP (cs:=[jI d.W,jI d.H,jI d.T,jI d.R]) A A A A A (aM 0 A 0 A)))
 intro vf E e
 have e2:=e 2 V
 exact eH A (aX 10 e2.1 (aA _)) (aF A A (fun w Z=>aI (iJ d w hd)))
 intro vf E e
 have e3:=e 3 V
 exact eH A (aX 11 e3.1 (aA _)) (fB (z:=.slice none 0 0) (s:=1) (bytes:=24) (n:=(replicate (allI d).toNat ir0).length) (cs:=((replicate (allI d).toNat ir0).flatMap irC)) A Tryz.underlying57 A V A A AB AB AF (fZ irC 1 (fun _=>A) ir0 _ A (allI d).toNat))
 intro vf E e
 obtain⟨M,G⟩:=dU (vf 1)
 obtain⟨p3,a0⟩:=dU (E 1)
 have R4:=e 1 V
 rw[G,a0] at R4
 obtain⟨B,rfl,a3,a5⟩:=R4
 obtain⟨J,X,a6⟩:=e 4 V
 refine Or.inl ⟨A,?_⟩
 exact bQ (aX 9 G (aX 12 X (aA _))) (by simp only[a0,G,a6,X,fS]<;>rfl) (dM (aK (dG (cs:=#[M,.slice (some ⟨J,0,none⟩) ((replicate (allI d).toNat ir0).length) ((replicate (allI d).toNat ir0).length)]) A A (Bi _ _ a5 A))) (fun _ _ h=>⟨h.1.trans (by show _=(.agg #[(vf 1),(vf 4)]:Value);first|(rw[G,X];done)|(rw[G,X];rfl)),h.2⟩))
 intro vf E e
 obtain⟨M,G⟩:=dU (vf 1)
 obtain⟨p3,a0⟩:=dU (E 1)
 have R4:=e 1 V
 rw[G,a0] at R4
 obtain⟨B,rfl,a3,a5⟩:=R4
 obtain⟨J,X,a6⟩:=e 4 V
 have e5:(vf 5)=.agg #[(vf 1),(vf 4)]∧(E 5)=[]:=e 5 V
 rw[G,X] at e5
 refine Or.inl ⟨A,?_⟩
 exact bQ (aX 13 e5.1 (aA _)) (by simp only[a0,G,a6,X,e5.2,fS]<;>rfl) (dM (cE A A) (fun U K h=>by show IsBox #[(vf 1),(vf 4)] 83 U K;rw[G,X];exact h))
 intro vf E e
 obtain⟨M,G⟩:=dU (vf 1)
 obtain⟨p3,a0⟩:=dU (E 1)
 have R4:=e 1 V
 rw[G,a0] at R4
 obtain⟨B,rfl,a3,a5⟩:=R4
 obtain⟨J,X,a6⟩:=e 4 V
 have e6:IsBox #[(vf 1),(vf 4)] 83 (vf 6) (E 6):=e 6 V
 rw[G,X] at e6
 obtain⟨Y,aa,ai⟩:=e6
 have q0:=e 0 V
 have q2:=e 2 V
 have q3:=e 3 V
 have q5:=e 5 V
 refine cL (bE [2,1,0] _ (aX 14 aa (aA _)) A) (by simp only[a0,G,a6,X,ai,aa,q0.2,q2.2,q3.2,q5.2,fS]<;>rfl) ?_
 simp only[drop_succ_cons,drop_zero]
 refine go ?_
 refine aN A (jM A A) (go ?_)
 have aj:=a3.len
 refine aN A (eV A A A (fun w Z=>(rV 0 A w Z).row)) (go ?_)
 refine fK [bigE ((replicate (allI d).toNat ir0).map irPart),irsE M B,rowE 26 1 (.slice (some ⟨J,0,none⟩) ((replicate (allI d).toNat ir0).length) ((replicate (allI d).toNat ir0).length)) ((replicate (allI d).toNat ir0).length) ((replicate (allI d).toNat ir0).flatMap irC),boxE Y #[M,.slice (some ⟨J,0,none⟩) ((replicate (allI d).toNat ir0).length) ((replicate (allI d).toNat ir0).length)] 83,boxE b1 #[jI d.W,jI d.H,jI d.T,jI d.R] 25] (fun w Z=>Z.irNil (allI d).toNat) ?_
 refine iG (α:=Nat) (β:=List IR) [0,1,2,3,18,19] A (fun n ks=>[bigE (ks.map irPart),irsE M B,rS9 26 1 (.slice (some ⟨J,0,none⟩) ((replicate (allI d).toNat ir0).length) ((replicate (allI d).toNat ir0).length)) ks irC,boxE Y #[M,.slice (some ⟨J,0,none⟩) ((replicate (allI d).toNat ir0).length) ((replicate (allI d).toNat ir0).length)] 83,boxE b1 #[jI d.W,jI d.H,jI d.T,jI d.R] 25]) (fun n ks=>[(20,jI (n:Int))]) (fun n ks=>n≤(allI d).toNat∧KOk d (allI d).toNat n 0 ks) (fun n ks=>(allI d).toNat-n) 0 (replicate (allI d).toNat ir0) ⟨O,Kk _ _⟩ (bV A) (cZ A) fun n ks ak=>go ?_
 obtain⟨hn,hk⟩:=ak
 have b4:=hk.len
 refine aW A A A A A A (fun h8=>go ?_) (fun h8=>go ?_)
 have az:=a3.len
 have a7:(B.getD n ir0).xs=srcI d n:=a3.src n O
 have al:(B.getD n ir0).xs.length≤16:=by rw[a7];exact oG _ _
 refine aN A (cV 1 A A A A (fun w Z=>(rV 1 A w Z).row)) (aN A (aL (u:=(B.getD n ir0).v) A A A (fun w Z=>(rV 1 A w Z).row) (dF irC (fun r=>r.v) (fun _=>A) B ir0 (show n<_ by omega))) (go ?_))
 refine aN A (eV A A A (fun w Z=>(rV 1 A w Z).at (k:=n) O)) (go ?_)
 refine iG (α:=Nat) (β:=List IR) [0,1,2,3,4,5,18,19,20,21,25,26] A (fun i zs=>[bigE (zs.map irPart),irsE M B,rS9 26 1 (.slice (some ⟨J,0,none⟩) ((replicate (allI d).toNat ir0).length) ((replicate (allI d).toNat ir0).length)) zs irC,boxE Y #[M,.slice (some ⟨J,0,none⟩) ((replicate (allI d).toNat ir0).length) ((replicate (allI d).toNat ir0).length)] 83,boxE b1 #[jI d.W,jI d.H,jI d.T,jI d.R] 25]) (fun i zs=>[(27,jI (i:Int))]) (fun i zs=>i≤(B.getD n ir0).xs.length∧KOk d (allI d).toNat n i zs) (fun i zs=>(B.getD n ir0).xs.length-i) 0 ks ⟨O,hk⟩ (bV A) (cZ A) fun i zs am=>go ?_
 obtain⟨hi,hz⟩:=am
 have b5:=hz.len
 refine aW A A A A A A (fun an=>go ?_) (fun an=>go ?_)
 refine aN A (cV 1 A A A A (fun w Z=>(rV 1 A w Z).at (k:=n) O)) (aN A (aL (u:=jI (((B.getD n ir0).xs).getD i 0)) A A A (fun w Z=>(rV 1 A w Z).at (k:=n) O) (cJ (show _<((B.getD n ir0).xs).length by omega))) (go ?_))
 have hx:=lH (d:=d) (k:=(n:Int)) (s:=(((B.getD n ir0).xs).getD i 0)) (by rw[←a7];exact dV O)
 obtain⟨ao,ap⟩:0≤(((B.getD n ir0).xs).getD i 0)∧(((B.getD n ir0).xs).getD i 0)<((allI d).toNat:Int):=⟨hx.1,O⟩
 have b7:=hz.sz ((((B.getD n ir0).xs).getD i 0).toNat) O
 refine jF 5 [4,3,2,1,0] A A V ?_
 refine fK [rowE 3 1 ((zs.getD ((((B.getD n ir0).xs).getD i 0).toNat) ir0).v) (((zs.getD ((((B.getD n ir0).xs).getD i 0).toNat) ir0).xs).length) (((zs.getD ((((B.getD n ir0).xs).getD i 0).toNat) ir0).xs).map (Value.int .i64)),bigE ((zs.map irPart).eraseIdx ((((B.getD n ir0).xs).getD i 0).toNat)),irsE M B,rS9 26 1 (.slice (some ⟨J,0,none⟩) ((replicate (allI d).toNat ir0).length) ((replicate (allI d).toNat ir0).length)) zs irC,boxE Y #[M,.slice (some ⟨J,0,none⟩) ((replicate (allI d).toNat ir0).length) ((replicate (allI d).toNat ir0).length)] 83,boxE b1 #[jI d.W,jI d.H,jI d.T,jI d.R] 25] (zA (es:=zs) (j:=((((B.getD n ir0).xs).getD i 0).toNat)) O) ?_
 refine gZ (l:=[bigE ((zs.map irPart).eraseIdx ((((B.getD n ir0).xs).getD i 0).toNat)),irsE M B,rS9 26 1 (.slice (some ⟨J,0,none⟩) ((replicate (allI d).toNat ir0).length) ((replicate (allI d).toNat ir0).length)) zs irC,boxE Y #[M,.slice (some ⟨J,0,none⟩) ((replicate (allI d).toNat ir0).length) ((replicate (allI d).toNat ir0).length)] 83,boxE b1 #[jI d.W,jI d.H,jI d.T,jI d.R] 25]) A 15 [0,1,2,3,4,5,6,7,8,9,10,11,12,13,14] (List.take 15 _) (List.drop 15 _) [[],[0],[1],[2],[],[],[5],[6],[7],[],[8,9],[10],[],[12],[11,13]] [some 31,some 32,some 33,some 34,some 35,some 36,some 37,some 38,some 39,some 40,some 41,some 42,some 43,some 44,some 45] (fun i_ a4 U K=>match i_ with|0=>U=pI Y∧K=[]|1=>U=pI Y∧K=[]|2=>U=.pointer (some ⟨Y,0+1,none⟩)∧K=[]|3=>U=.slice (some ⟨J,0,none⟩) ((replicate (allI d).toNat ir0).length) ((replicate (allI d).toNat ir0).length)∧K=[]|4=>U=jI (((B.getD n ir0).xs).getD i 0)∧K=[]|5=>U=pI Y∧K=[]|6=>U=pI Y∧K=[]|7=>U=.pointer (some ⟨Y,0+1,none⟩)∧K=[]|8=>U=.slice (some ⟨J,0,none⟩) ((replicate (allI d).toNat ir0).length) ((replicate (allI d).toNat ir0).length)∧K=[]|9=>U=jI (((B.getD n ir0).xs).getD i 0)∧K=[]|10=>U=elP (.slice (some ⟨J,0,none⟩) ((replicate (allI d).toNat ir0).length) ((replicate (allI d).toNat ir0).length)) ((((B.getD n ir0).xs).getD i 0).toNat*1)∧K=[]|11=>U=(zs.getD ((((B.getD n ir0).xs).getD i 0).toNat) ir0).v∧K=[]|12=>U=jI (n:Int)∧K=[]|13=>IsRow 3 1 1 (mI [(n:Int)]) U K|14=>(∃ab,K=[ab]∧(fun u_ K=>K=rowE 3 1 u_ ((((zs.getD ((((B.getD n ir0).xs).getD i 0).toNat) ir0).xs)++([(n:Int)])).length) ((((zs.getD ((((B.getD n ir0).xs).getD i 0).toNat) ir0).xs)++([(n:Int)])).map (Value.int .i64))) U ab)|_=>True) [[],[0],[1],[2],[],[],[5],[6],[7],[],[8,9],[10],[],[12],[11,13]] [none,none,none,none,none,none,none,none,none,none,none,none,none,none,some 17] [[rowE 3 1 ((zs.getD ((((B.getD n ir0).xs).getD i 0).toNat) ir0).v) (((zs.getD ((((B.getD n ir0).xs).getD i 0).toNat) ir0).xs).length) (((zs.getD ((((B.getD n ir0).xs).getD i 0).toNat) ir0).xs).map (Value.int .i64))]] [0,1,2,3,4,5,6,7,8,9,10,11,12,13,14] 17 (take_append_drop 15 _).symm F F F A A ?_ ?_
 refine⟨?_,?_,?_,?_,?_,?_,?_,?_,?_,?_,?_,?_,?_,?_,?_,trivial⟩
 intro vf E D e
 refine cD [] [] A (aZ (aD [3] A) ?_)
 exact aK (aU A)
 intro vf E D e
 have e0:=e 0 V
 refine cD [0] [0] A (aZ (aX 31 e0.1 (aA _)) ?_)
 exact aK (jM A A)
 intro vf E D e
 have e1:=e 1 V
 refine cD [1] [1] A (aZ (aX 32 e1.1 (aA _)) ?_)
 exact aK (fY 1 A A A)
 intro vf E D e
 have e2:=e 2 V
 refine cD [2] [2] A (bC (aX 33 e2.1 (aA _)) z9 ?_)
 exact aK (bJ A A A (bA 3 A A))
 intro vf E D e
 refine cD [] [] A (aZ (aD [7] A) ?_)
 exact aK (aU A)
 intro vf E D e
 refine cD [] [] A (aZ (aD [3] A) ?_)
 exact aK (aU A)
 intro vf E D e
 have e5:=e 5 V
 refine cD [5] [5] A (aZ (aX 36 e5.1 (aA _)) ?_)
 exact aK (jM A A)
 intro vf E D e
 have e6:=e 6 V
 refine cD [6] [6] A (aZ (aX 37 e6.1 (aA _)) ?_)
 exact aK (fY 1 A A A)
 intro vf E D e
 have e7:=e 7 V
 refine cD [7] [7] A (bC (aX 38 e7.1 (aA _)) z9 ?_)
 exact aK (bJ A A A (bA 3 A A))
 intro vf E D e
 refine cD [] [] A (aZ (aD [7] A) ?_)
 exact aK (aU A)
 intro vf E D e
 have e8:=e 8 V
 have e9:=e 9 V
 refine cD [8,9] [8,9] A (bC (aX 39 e8.1 (aX 40 e9.1 (aA _))) z9 ?_)
 exact aK (cV 1 A A A A (aB 2 A))
 intro vf E D e
 have aq:=e 10 V
 refine cD [10] [10] A (bC (aX 41 aq.1 (aA _)) z9 ?_)
 exact aK (aL (u:=(zs.getD ((((B.getD n ir0).xs).getD i 0).toNat) ir0).v) A A A (aB 2 A) (dF irC (fun r=>r.v) (fun _=>A) zs ir0 (show(((B.getD n ir0).xs).getD i 0).toNat<_ by omega)))
 intro vf E D e
 refine cD [] [] A (aZ (aD [4] A) ?_)
 exact aK (aU A)
 intro vf E D e
 have ar:=e 12 V
 refine cD [12] [12] A (bC (aX 43 ar.1 (aA _)) z9 ?_)
 exact aH (z:=jI 0) (s:=1) (cs:=(mI [(n:Int)])) A z8 A V A F A
 intro vf E D e
 have ac:=e 11 V
 obtain⟨ad,a2,a8⟩:=e 13 V
 refine Or.inl ⟨A,?_⟩
 show RunM _ _ _ (E 17) (([11,13]:List Nat).flatMap E++_) (envOf3 _ vf [11,13]++_) _ _
 have ae:E 17=[rowE 3 1 ((zs.getD ((((B.getD n ir0).xs).getD i 0).toNat) ir0).v) (((zs.getD ((((B.getD n ir0).xs).getD i 0).toNat) ir0).xs).length) (((zs.getD ((((B.getD n ir0).xs).getD i 0).toNat) ir0).xs).map (Value.int .i64))]:=D 0 (show 0<1 by omega)
 rw[ae]
 exact eJ (aX 42 ac.1 (aX 44 a2 (aA _))) (by simp only[a8,a2,ac.2,fS]<;>rfl) (mO (d:=0) (z:=jI 0) (bytes:=8) (n':=(((zs.getD ((((B.getD n ir0).xs).getD i 0).toNat) ir0).xs)++([(n:Int)])).length) (xs':=((((zs.getD ((((B.getD n ir0).xs).getD i 0).toNat) ir0).xs)++([(n:Int)])).map (Value.int .i64))) A z8 A A A A (aB 0 A) (bI _) (by simp only[length_cons,List.length_nil];omega) (bK ((zs.getD ((((B.getD n ir0).xs).getD i 0).toNat) ir0).xs) ([(n:Int)])) (cB ((zs.getD ((((B.getD n ir0).xs).getD i 0).toNat) ir0).xs) ([(n:Int)])))
 intro vf E D e
 have e3:=e 3 V
 have e4:=e 4 V
 obtain⟨ad,a2,a8⟩:=e 13 V
 obtain⟨b8,af,ag⟩:=e 14 V
 obtain⟨a1,a9⟩:=dU (vf 14)
 rw[a9] at ag
 subst ag
 have q0:=e 0 V
 have q1:=e 1 V
 have q2:=e 2 V
 have q3:=e 3 V
 have q4:=e 4 V
 have q5:=e 5 V
 have q6:=e 6 V
 have q7:=e 7 V
 have q8:=e 8 V
 have q9:=e 9 V
 have au:=e 10 V
 have aw:=e 11 V
 have ax:=e 12 V
 refine cL (bE [28,27,26,25,21,20,19,18,7,5,4,3,2,1,0] _ (aX 34 e3.1 (aX 35 e4.1 (aX 45 a9 (aA _)))) A) (by simp only[a8,a2,af,a9,q0.2,q1.2,q2.2,q3.2,q4.2,q5.2,q6.2,q7.2,q8.2,q9.2,au.2,aw.2,ax.2,fS]<;>rfl) ?_
 simp only[drop_succ_cons,drop_zero]
 refine aN A (cV 1 A A A A (aB 4 A)) (eE (i:=1) A (fun ah=>?_))
 refine dS (i:=4) (n':=(zs.set ((((B.getD n ir0).xs).getD i 0).toNat) (IR.mk a1 (((zs.getD ((((B.getD n ir0).xs).getD i 0).toNat) ir0).xs)++([(n:Int)])))).length) A A A A A A ah A AA List.length_set.symm (eF irC (fun r=>r.v) (fun _=>A) _ (IR.mk a1 (((zs.getD ((((B.getD n ir0).xs).getD i 0).toNat) ir0).xs)++([(n:Int)]))) A) A (kQ 7 [6,5,4,3,0,2,1] A A V ?_)
 refine jZ [bigE ((zs.set ((((B.getD n ir0).xs).getD i 0).toNat) (IR.mk a1 (((zs.getD ((((B.getD n ir0).xs).getD i 0).toNat) ir0).xs)++([(n:Int)])))).map irPart),rowE 3 1 (.slice (some ⟨ad,0,none⟩) 1 1) 1 (mI [(n:Int)]),irsE M B,rowE 26 1 (.slice (some ⟨J,0,none⟩) ((replicate (allI d).toNat ir0).length) ((replicate (allI d).toNat ir0).length)) ((zs.set ((((B.getD n ir0).xs).getD i 0).toNat) (IR.mk a1 (((zs.getD ((((B.getD n ir0).xs).getD i 0).toNat) ir0).xs)++([(n:Int)])))).length) ((zs.set ((((B.getD n ir0).xs).getD i 0).toNat) (IR.mk a1 (((zs.getD ((((B.getD n ir0).xs).getD i 0).toNat) ir0).xs)++([(n:Int)])))).flatMap irC),boxE Y #[M,.slice (some ⟨J,0,none⟩) ((replicate (allI d).toNat ir0).length) ((replicate (allI d).toNat ir0).length)] 83,boxE b1 #[jI d.W,jI d.H,jI d.T,jI d.R] 25] (vL (es:=zs) (j:=(((B.getD n ir0).xs).getD i 0).toNat) (e':=(IR.mk a1 (((zs.getD ((((B.getD n ir0).xs).getD i 0).toNat) ir0).xs)++([(n:Int)])))) AA) (go ?_)
 exact bO (i+1) (zs.set ((((B.getD n ir0).xs).getD i 0).toNat) (IR.mk a1 (((zs.getD ((((B.getD n ir0).xs).getD i 0).toNat) ir0).xs)++([(n:Int)])))) ⟨O,hz.step (by rw[←a7];omega) (by rw[←a7]) ao ap⟩ O (bV A) (eA [0,1,0,0,0] A)
 exact bO (n+1) zs ⟨O,hz.next (by rw[←a7];omega)⟩ O (bV A) (cZ A)
 have ay:n=(allI d).toNat:=O
 subst ay
 refine bN 5 [3,1,2,0] A A V ?_
 refine fH [grE Y (Gr.mk M (.slice (some ⟨J,0,none⟩) ((replicate (allI d).toNat ir0).length) ((replicate (allI d).toNat ir0).length)) B ks)] (fun w Z=>by
     have h1:Mem _ ([bigE (ks.map irPart),rS9 26 1 (.slice (some ⟨J,0,none⟩) ((replicate (allI d).toNat ir0).length) ((replicate (allI d).toNat ir0).length)) ks irC]++(irsE M B::boxE Y #[M,.slice (some ⟨J,0,none⟩) ((replicate (allI d).toNat ir0).length) ((replicate (allI d).toNat ir0).length)] 83::[])) w:=Z
     have h2:Mem _ (irsE (.slice (some ⟨J,0,none⟩) ((replicate (allI d).toNat ir0).length) ((replicate (allI d).toNat ir0).length)) ks::irsE M B::boxE Y #[M,.slice (some ⟨J,0,none⟩) ((replicate (allI d).toNat ir0).length) ((replicate (allI d).toNat ir0).length)] 83::[]) w:=h1.big
     have h3:Mem _ ([boxE Y #[M,.slice (some ⟨J,0,none⟩) ((replicate (allI d).toNat ir0).length) ((replicate (allI d).toNat ir0).length)] 83,irsE M B,irsE (.slice (some ⟨J,0,none⟩) ((replicate (allI d).toNat ir0).length) ((replicate (allI d).toNat ir0).length)) ks]++[]) w:=h2.perm (List.reverse_perm [boxE Y #[M,.slice (some ⟨J,0,none⟩) ((replicate (allI d).toNat ir0).length) ((replicate (allI d).toNat ir0).length)] 83,irsE M B,irsE (.slice (some ⟨J,0,none⟩) ((replicate (allI d).toNat ir0).length) ((replicate (allI d).toNat ir0).length)) ks])
     exact h3.big) ?_
 exact bM (post:=[grE Y (Gr.mk M (.slice (some ⟨J,0,none⟩) ((replicate (allI d).toNat ir0).length) ((replicate (allI d).toNat ir0).length)) B ks)]) A A (cZ A) ⟨Y,(Gr.mk M (.slice (some ⟨J,0,none⟩) ((replicate (allI d).toNat ir0).length) ((replicate (allI d).toNat ir0).length)) B ks),A,A,⟨a3,hk⟩⟩
theorem wC (b:Nat) (g:Gr) (cs E:List Int) (cv sv:Value) (SS:Int→List Int) (w:World) (hg:RdsGr w b g) (bg:g.ks.length=cs.length) (ak:∀x:Nat,x<cs.length→(g.ks.getD x ir0).xs.length≤100000) (hN:GrS cs.length SS (kOf g.ks) cs) (al:RdsW w cv 1 cs.length (cs.map (Value.int .i64))) (a6:RdsW w sv 1 E.length (E.map (Value.int .i64))) (bh:E.length≤1000000) (am:∀s∈E,0≤s∧s<cs.length) :
   Calls Tryz.prog 90 #[.pointer (some ⟨b,0,none⟩),cv,sv] w (Ret w (fun v' post=>∃D:List Int,post=[rI9 3 v' D]∧DistOk cs.length SS cs E D)):=by
 have bi:(replicate cs.length (0:Int)).length=cs.length:=length_replicate
 have an:=hN.n1
 refine aY (N:=107) (args:=[pI b,cv,sv]) Tryz.func90 A A (cF 1 A (aG (cN 1 A (aN A (eV A A A (aE al)) ?_))))
 refine cH A (fB (z:=jI 0) (s:=1) (bytes:=8) (n:=(replicate cs.length (0:Int)).length) (cs:=(mI (replicate cs.length (0:Int)))) A z8 A V A A AB AB AF (gW _)) ?_
 intro g1
 refine bG 1 A (aG (aG (cN 1 A (aN A (eV A A A (aB 0 A)) (bG 1 A (bS ?_))))))
 refine iG (α:=Nat) (β:=List Int) [0,1,2,6,7,20] A (fun k zs=>[rI9 3 (.slice (some ⟨g1,0,none⟩) ((replicate cs.length (0:Int)).length) ((replicate cs.length (0:Int)).length)) zs]) (fun k zs=>[(21,jI (k:Int))]) (fun k zs=>k≤cs.length∧zs=replicate k (-1)++replicate (cs.length-k) 0) (fun k zs=>cs.length-k) 0 (replicate cs.length 0) ⟨O,AI⟩ (bV A) (cZ A) ?_
 intro k zs ao
 obtain⟨hk,hz⟩:=ao
 have bj:zs.length=cs.length:=by rw[hz,Gb hk]
 refine dW ?_
 refine aW A A A A A A (fun h3=>?_) (fun h3=>?_)
 refine dL (tcQ A (eC (jR (dW (eS 2 A ?_)))))
 refine bB (cN 2 A (aN A (cV 1 A A A A (aB 0 A)) ?_))
 refine dS (i:=0) (n':=(zs.set k (-1)).length) (xs':=(mI (zs.set k (-1)))) A A A A A A A A AA List.length_set.symm (eP _ _ _) A (cP (eB (bP (aN A (eY A A A) (eS 1 A ?_)))))
 exact bO (k+1) (zs.set k (-1)) ⟨O,by rw[hz];exact Ga O⟩ O (bV rfl) (cZ rfl)
 refine dL (fcQ A ?_)
 refine bW (fM ?_)
 refine aO (bB (dW ?_))
 refine rW 119 2 ?_
 refine dO (l':=[rowE 119 2 (.slice none 0 0) (([]:List Qu).length) (([]:List Qu).flatMap quC),rI9 3 (.slice (some ⟨g1,0,none⟩) ((replicate cs.length (0:Int)).length) ((replicate cs.length (0:Int)).length)) zs]) A ?_
 refine bG 1 A (aG (aG (cN 1 A (aN A (eV A A A (aE a6)) (bG 1 A (bS ?_))))))
 refine mS (α:=Nat) (β:=Value) (γ:=List Qu) (δ:=List Int) [0,1,2,6,7,22,28,29] rfl (fun i u J os=>[rS9 119 2 u J quC,rI9 3 (.slice (some ⟨g1,0,none⟩) ((replicate cs.length (0:Int)).length) ((replicate cs.length (0:Int)).length)) os]) (fun i u J os=>[(9,u),(30,jI (i:Int))]) (fun i u J os=>i≤E.length∧DS cs.length cs E (E.take i) os J) (fun i u J os=>E.length-i) 0 _ [] zs ⟨O,by rw[hz,show k=cs.length by omega,Gc];exact Iq _ _ _⟩ (bV rfl) (cZ rfl) ?_
 intro i u J os ap
 obtain⟨hi,a0⟩:=ap
 have aq:=a0.len
 have ab:=a0.mea
 have ar:=hN.bnd
 refine dW ?_
 refine aW A A A A A A (fun h6=>?_) (fun h6=>?_)
 refine dL (tcQ A (eC (jR (dW (aN A (cV 1 A A A A (aE a6)) (aN A (lD A A A (aE a6)) (aS 1 A ?_)))))))
 refine dL (dW ?_)
 have ac:=am (E.getD i 0) (dV O)
 refine aS 2 A (aN A (cV 1 A A A A (aB 1 A)) (aN A (lP A A A (aB 1 A)) ?_))
 refine jY A A A A A A (fun h7=>?_) (fun h7=>?_)
 refine dL (aR A (aG (cN 2 A (aN A (cV 1 A A A A (aB 1 A)) ?_))))
 refine dS (i:=1) (n':=(os.set ((E.getD i 0).toNat) 0).length) (xs':=(mI (os.set ((E.getD i 0).toNat) 0))) A A A A A A A A AA List.length_set.symm (eP _ _ _) A (dL (cN 2 A (aN A (dG (cs:=#[jI 0,jI (E.getD i 0)]) A A A) ?_)))
 refine cR (R:=(fun v_ p_=>∃G:List Qu,p_=rS9 119 2 v_ (G) quC∧G.Perm (J++[(Qu.mk 0 (E.getD i 0))]))) 0 A A A A A (fun l' w K=>mE J _ (Qu.mk 0 (E.getD i 0)) _ _ _ K O) ?_
 intro v8 p9 au
 obtain⟨a3,rfl,a1⟩:=au
 refine dO (l':=[rS9 119 2 v8 a3 quC,rowE 3 1 (.slice (some ⟨g1,0,none⟩) ((replicate cs.length (0:Int)).length) ((replicate cs.length (0:Int)).length)) ((os.set ((E.getD i 0).toNat) 0).length) (mI (os.set ((E.getD i 0).toNat) 0))]) A ?_
 refine eS 1 A (eB (bP (aN A (eY A A A) (eS 1 A ?_))))
 exact dH (i+1) v8 a3 (os.set ((E.getD i 0).toNat) 0) ⟨O,by rw[kD O];exact a0.more ac.1 ac.2 (dV O) (by unfold gI;omega) a1.symm⟩ O (bV rfl) (cZ rfl)
 refine dL (jQ A (eB (bP (aN A (eY A A A) (eS 1 A ?_)))))
 exact dH (i+1) u J os ⟨O,by rw[kD O];exact a0.again I⟩ O (bV rfl) (cZ rfl)
 refine dL (fcQ A ?_)
 refine bW (fM ?_)
 refine aO (bB (jR ?_))
 refine mS (α:=Nat) (β:=Value) (γ:=List Qu) (δ:=List Int) [0,1,2,6,7,22,31] rfl (fun M u J os=>[rS9 119 2 u J quC,rI9 3 (.slice (some ⟨g1,0,none⟩) ((replicate cs.length (0:Int)).length) ((replicate cs.length (0:Int)).length)) os]) (fun M u J os=>[(9,u)]) (fun M u J os=>M≤cs.length*(100000*cs.length+1)∧DI cs.length SS cs E E (kOf g.ks) os J M) (fun M u J os=>M) (cs.length*(100000*cs.length+1)) u J os ⟨Nat.le_refl _,by have h9:=a0;rw[show i=E.length by omega,take_length] at h9;exact h9.di⟩ (bV rfl) (cZ rfl) ?_
 intro M u J os ad
 obtain⟨hM,a2⟩:=ad
 have aq:=a2.len
 have ab:=a2.mea
 have ar:=hN.bnd
 refine aG (aG (cN 1 A (aN A (eV A A A (aB 0 A)) ?_)))
 refine fJ A A A A A A (fun aw=>?_) (fun aw=>?_)
 refine dL (aR A (eC (bS (dW ?_))))
 refine cU A (bY (z:=.agg #[jI 0,jI 0]) A A) ?_
 intro U
 refine dL (aG (cN 1 A ?_))
 refine cR (R:=(fun v_ p_=>∃(q:Qu) (v2:Value) (G:List Qu),v_=.tuple #[v2,.agg #[jI q.d,jI q.n]]∧p_=rS9 119 2 v2 (G) quC∧(q::G).Perm J)) 1 A A A A A (fun l' w K=>yC J _ _ _ _ K O O) ?_
 intro bk bl ax
 obtain⟨q,v2,qt,rfl,rfl,ay⟩:=ax
 refine dO (l':=[boxE U #[jI 0,jI 0] 119,rS9 119 2 v2 qt quC,rI9 3 (.slice (some ⟨g1,0,none⟩) ((replicate cs.length (0:Int)).length) ((replicate cs.length (0:Int)).length)) os]) A ?_
 refine aS 4 A (cA (cs':=#[jI q.d,jI q.n]) (i:=0) (off:=0) (us:=[jI q.d,jI q.n]) A A A A A A A (aC A (aC A bH)) A A A ?_)
 refine dL (aG (aG ?_))
 have a7:=a2.perm ay.symm
 obtain⟨X,az,b0,bm,bn⟩:=a7.top
 have ba:=ak q.n.toNat O
 have bb:0≤os.getD q.n.toNat 0:=az
 have bc:os.getD q.n.toNat 0≤q.d:=b0
 have an:=hN.n1
 refine bL 8 [[],[0],[],[],[3],[2,4],[5],[1,6]] [55,56,57,58,59,60,61,62] [.pointer (some ⟨U,0+0,none⟩),jI q.d,.slice (some ⟨g1,0,none⟩) ((replicate cs.length (0:Int)).length) ((replicate cs.length (0:Int)).length),.pointer (some ⟨U,0+1,none⟩),jI q.n,elP (.slice (some ⟨g1,0,none⟩) ((replicate cs.length (0:Int)).length) ((replicate cs.length (0:Int)).length)) (q.n.toNat*1),jI (os.getD (q.n.toNat) 0),.bool (decide (os.getD (q.n.toNat) 0<q.d))] F A ?_ ?_
 exact⟨aJ,aJ,aJ,aJ,aJ,aJ,aJ,aJ,trivial⟩
 simp only[drop_succ_cons,drop_zero]
 refine dL ?_
 refine fO A (fun a8=>?_) (fun a8=>?_)
 have ae:os.getD (q.n.toNat) 0<q.d:=of_decide_eq_true a8
 refine bW (dB ?_)
 exact aO (dH (M-1) v2 qt os ⟨O,a7.drop (by unfold gI;omega)⟩ O (bV A) (eA [1,0] A))
 have ae:¬(os.getD (q.n.toNat) 0<q.d):=of_decide_eq_false a8
 refine eC (aG ?_)
 refine bL 10 [[],[0],[1],[2],[],[4],[3,5],[6],[7],[]] [63,64,65,66,67,68,69,70,71,72] [pI b,pI b,.pointer (some ⟨b,0+1,none⟩),g.kv,.pointer (some ⟨U,0+1,none⟩),jI q.n,elP g.kv (q.n.toNat*1),(g.ks.getD (q.n.toNat) ir0).v,jI (((g.ks.getD (q.n.toNat) ir0).xs).length:Int),jI 0] F A ?_ ?_
 exact⟨aJ,fL A (jM A A) A,aJ,fL A (bJ A A A (fun w K=>(K.bel.cell (p:=⟨b,0+1,none⟩) hg.lt).trans hg.c1)) A,aJ,aJ,fL A (cV 1 A A A A (fun w K=>(hg.ks.below K.bel).row)) A,fL A (aL (u:=(g.ks.getD (q.n.toNat) ir0).v) A A A (fun w K=>(hg.ks.below K.bel).row) (dF irC (fun r=>r.v) (fun _=>A) g.ks ir0 (show q.n.toNat<_ by omega))) A,fL A (eV A A A (fun w K=>(hg.ks.at (k:=q.n.toNat) O).below K.bel)) A,aJ,trivial⟩
 simp only[drop_succ_cons,drop_zero]
 refine dL (bS ?_)
 refine mS (α:=Nat) (β:=Value) (γ:=List Qu) (δ:=List Int) [0,1,2,6,7,12,22,31,49,62,70,71] A (fun j u2 B e=>[boxE U #[jI q.d,jI q.n] 119,rS9 119 2 u2 B quC,rI9 3 (.slice (some ⟨g1,0,none⟩) ((replicate cs.length (0:Int)).length) ((replicate cs.length (0:Int)).length)) e]) (fun j u2 B e=>[(9,u2),(72,jI (j:Int))]) (fun j u2 B e=>j≤(g.ks.getD (q.n.toNat) ir0).xs.length∧gI e q.n=q.d∧DI cs.length SS cs E E (upTo (kOf g.ks) q.n j) e B (M-1)) (fun j u2 B e=>(g.ks.getD (q.n.toNat) ir0).xs.length-j) 0 v2 qt os ⟨O,by unfold gI;omega,a7.first⟩ (bV A) (cZ A) ?_
 intro j u2 B e af
 obtain⟨hj,Z,Y⟩:=af
 have bd:=Y.len
 have b1:=Y.mea
 refine dW ?_
 refine aW A A A A A A (fun b2=>?_) (fun b2=>?_)
 refine dL (tcQ A (eC (jR (dW ?_))))
 refine aN A (cV 1 A A A A (fun w K=>(hg.ks.at (k:=q.n.toNat) O).below K.bel)) (aN A (aL (u:=jI (((g.ks.getD (q.n.toNat) ir0).xs).getD j 0)) A A A (fun w K=>(hg.ks.at (k:=q.n.toNat) O).below K.bel) (cJ (show _<((g.ks.getD (q.n.toNat) ir0).xs).length by omega))) ?_)
 refine bG 1 A (aG ?_)
 obtain⟨⟨ag,ah⟩,bo⟩:=(hN.kr q.n X.1 X.2 (((g.ks.getD (q.n.toNat) ir0).xs).getD j 0)).1 (dV (by show j<(g.ks.getD (q.n.toNat) ir0).xs.length;omega))
 have b3:=hN.cr (((g.ks.getD (q.n.toNat) ir0).xs).getD j 0) ag ah
 have be:1≤cs.getD (((g.ks.getD (q.n.toNat) ir0).xs).getD j 0).toNat 0∧cs.getD (((g.ks.getD (q.n.toNat) ir0).xs).getD j 0).toNat 0≤100000:=b3
 have b4:gI e (((g.ks.getD (q.n.toNat) ir0).xs).getD j 0) = -1∨0≤gI e (((g.ks.getD (q.n.toNat) ir0).xs).getD j 0):=(Y.rng (((g.ks.getD (q.n.toNat) ir0).xs).getD j 0) ag ah).imp (fun h=>h) (fun h=>h.1)
 have bf:e.getD (((g.ks.getD (q.n.toNat) ir0).xs).getD j 0).toNat 0 = -1∨0≤e.getD (((g.ks.getD (q.n.toNat) ir0).xs).getD j 0).toNat 0:=b4
 refine bL 7 [[],[0],[],[],[2,3],[4],[1,5]] [76,77,78,79,80,81,82] [.pointer (some ⟨U,0+0,none⟩),jI q.d,cv,jI (((g.ks.getD (q.n.toNat) ir0).xs).getD j 0),elP cv ((((g.ks.getD (q.n.toNat) ir0).xs).getD j 0).toNat*1),jI (cs.getD ((((g.ks.getD (q.n.toNat) ir0).xs).getD j 0).toNat) 0),jI (q.d+(cs.getD ((((g.ks.getD (q.n.toNat) ir0).xs).getD j 0).toNat) 0))] F A ?_ ?_
 exact⟨aJ,aJ,aJ,aJ,aJ,aJ,aJ,trivial⟩
 simp only[drop_succ_cons,drop_zero]
 refine bG 1 A (aG (cN 2 A (aN A (cV 1 A A A A (aB 2 A)) (aN A (lP A A A (aB 2 A)) ?_))))
 refine bZ A A A A A A (fun b5=>?_) (fun b5=>?_)
 refine bG 8 A (aR A (aG (cN 3 A (aN A (cV 1 A A A A (aB 2 A)) ?_))))
 refine dS (i:=2) (n':=(e.set ((((g.ks.getD (q.n.toNat) ir0).xs).getD j 0).toNat) (q.d+(cs.getD ((((g.ks.getD (q.n.toNat) ir0).xs).getD j 0).toNat) 0))).length) (xs':=((e.set ((((g.ks.getD (q.n.toNat) ir0).xs).getD j 0).toNat) (q.d+(cs.getD ((((g.ks.getD (q.n.toNat) ir0).xs).getD j 0).toNat) 0))).map (Value.int .i64))) A A A A A A A A AA List.length_set.symm (eP _ _ _) A (dL (cN 3 A (aN A (dG (cs:=#[jI (q.d+(cs.getD ((((g.ks.getD (q.n.toNat) ir0).xs).getD j 0).toNat) 0)),jI (((g.ks.getD (q.n.toNat) ir0).xs).getD j 0)]) A A A) ?_)))
 refine cR (R:=(fun v_ p_=>∃G:List Qu,p_=rS9 119 2 v_ (G) quC∧G.Perm (B++[(Qu.mk (q.d+(cs.getD ((((g.ks.getD (q.n.toNat) ir0).xs).getD j 0).toNat) 0)) (((g.ks.getD (q.n.toNat) ir0).xs).getD j 0))]))) 1 A A A A A (fun l' w K=>mE B _ (Qu.mk (q.d+(cs.getD ((((g.ks.getD (q.n.toNat) ir0).xs).getD j 0).toNat) 0)) (((g.ks.getD (q.n.toNat) ir0).xs).getD j 0)) _ _ _ K O) ?_
 intro ai bp b6
 obtain⟨a4,rfl,a1⟩:=b6
 refine dO (l':=[boxE U #[jI q.d,jI q.n] 119,rS9 119 2 ai a4 quC,rowE 3 1 (.slice (some ⟨g1,0,none⟩) ((replicate cs.length (0:Int)).length) ((replicate cs.length (0:Int)).length)) ((e.set ((((g.ks.getD (q.n.toNat) ir0).xs).getD j 0).toNat) (q.d+(cs.getD ((((g.ks.getD (q.n.toNat) ir0).xs).getD j 0).toNat) 0))).length) ((e.set ((((g.ks.getD (q.n.toNat) ir0).xs).getD j 0).toNat) (q.d+(cs.getD ((((g.ks.getD (q.n.toNat) ir0).xs).getD j 0).toNat) 0))).map (Value.int .i64))]) A ?_
 refine eS 1 A (eB (bP (aN A (eY A A A) (eS 1 A ?_))))
 obtain⟨a9,aa⟩:=Y.lower hN X.1 X.2 O (by show j<(g.ks.getD (q.n.toNat) ir0).xs.length;omega) (n:=(((g.ks.getD (q.n.toNat) ir0).xs).getD j 0)) rfl (c:=q.d+cs.getD (((g.ks.getD (q.n.toNat) ir0).xs).getD j 0).toNat 0) (by rw[Z]) (by unfold gI;omega) a1
 exact dH (j+1) ai a4 (e.set ((((g.ks.getD (q.n.toNat) ir0).xs).getD j 0).toNat) (q.d+(cs.getD ((((g.ks.getD (q.n.toNat) ir0).xs).getD j 0).toNat) 0))) ⟨O,by rw[aa];exact Z,a9⟩ O (bV rfl) (cZ rfl)
 refine aS 4 A (aN A (cV 1 A A A A (aB 2 A)) (aN A (lP A A A (aB 2 A)) ?_))
 refine aW A A A A A A (fun b7=>?_) (fun b7=>?_)
 refine bG 1 A (aR A (aG (cN 3 A (aN A (cV 1 A A A A (aB 2 A)) ?_))))
 refine dS (i:=2) (n':=(e.set ((((g.ks.getD (q.n.toNat) ir0).xs).getD j 0).toNat) (q.d+(cs.getD ((((g.ks.getD (q.n.toNat) ir0).xs).getD j 0).toNat) 0))).length) (xs':=((e.set ((((g.ks.getD (q.n.toNat) ir0).xs).getD j 0).toNat) (q.d+(cs.getD ((((g.ks.getD (q.n.toNat) ir0).xs).getD j 0).toNat) 0))).map (Value.int .i64))) A A A A A A A A AA List.length_set.symm (eP _ _ _) A (dL (cN 3 A (aN A (dG (cs:=#[jI (q.d+(cs.getD ((((g.ks.getD (q.n.toNat) ir0).xs).getD j 0).toNat) 0)),jI (((g.ks.getD (q.n.toNat) ir0).xs).getD j 0)]) A A A) ?_)))
 refine cR (R:=(fun v_ p_=>∃G:List Qu,p_=rS9 119 2 v_ (G) quC∧G.Perm (B++[(Qu.mk (q.d+(cs.getD ((((g.ks.getD (q.n.toNat) ir0).xs).getD j 0).toNat) 0)) (((g.ks.getD (q.n.toNat) ir0).xs).getD j 0))]))) 1 A A A A A (fun l' w K=>mE B _ (Qu.mk (q.d+(cs.getD ((((g.ks.getD (q.n.toNat) ir0).xs).getD j 0).toNat) 0)) (((g.ks.getD (q.n.toNat) ir0).xs).getD j 0)) _ _ _ K O) ?_
 intro aj bq b8
 obtain⟨a5,rfl,a1⟩:=b8
 refine dO (l':=[boxE U #[jI q.d,jI q.n] 119,rS9 119 2 aj a5 quC,rowE 3 1 (.slice (some ⟨g1,0,none⟩) ((replicate cs.length (0:Int)).length) ((replicate cs.length (0:Int)).length)) ((e.set ((((g.ks.getD (q.n.toNat) ir0).xs).getD j 0).toNat) (q.d+(cs.getD ((((g.ks.getD (q.n.toNat) ir0).xs).getD j 0).toNat) 0))).length) ((e.set ((((g.ks.getD (q.n.toNat) ir0).xs).getD j 0).toNat) (q.d+(cs.getD ((((g.ks.getD (q.n.toNat) ir0).xs).getD j 0).toNat) 0))).map (Value.int .i64))]) A ?_
 refine eS 1 A (eB (bP (aN A (eY A A A) (eS 1 A ?_))))
 obtain⟨a9,aa⟩:=Y.lower hN X.1 X.2 O (by show j<(g.ks.getD (q.n.toNat) ir0).xs.length;omega) (n:=(((g.ks.getD (q.n.toNat) ir0).xs).getD j 0)) rfl (c:=q.d+cs.getD (((g.ks.getD (q.n.toNat) ir0).xs).getD j 0).toNat 0) (by rw[Z]) (by unfold gI;omega) a1
 exact dH (j+1) aj a5 (e.set ((((g.ks.getD (q.n.toNat) ir0).xs).getD j 0).toNat) (q.d+(cs.getD ((((g.ks.getD (q.n.toNat) ir0).xs).getD j 0).toNat) 0))) ⟨O,by rw[aa];exact Z,a9⟩ O (bV rfl) (cZ rfl)
 refine bG 1 A (jQ A (eB (bP (aN A (eY A A A) (eS 1 A ?_)))))
 exact dH (j+1) u2 B e ⟨O,Z,Y.higher hN X.1 X.2 (by show j<(g.ks.getD (q.n.toNat) ir0).xs.length;omega) (n:=(((g.ks.getD (q.n.toNat) ir0).xs).getD j 0)) A (by rw[Z];unfold gI;omega)⟩ O (bV A) (cZ A)
 refine dL (fcQ A ?_)
 refine bW (fM ?_)
 refine aO (cG ?_)
 exact dH (M-1) u2 B e ⟨O,Y.last (by show(g.ks.getD (q.n.toNat) ir0).xs.length≤j;omega)⟩ O (bV A) (eA [1,0] A)
 refine dL (aV A ?_)
 refine bW (fM ?_)
 refine aO (bB (cF 2 A ?_))
 refine cW ?_
 have b9:J=[]:=List.eq_nil_of_length_eq_zero O
 subst b9
 exact bM (post:=[rI9 3 (.slice (some ⟨g1,0,none⟩) ((replicate cs.length (0:Int)).length) ((replicate cs.length (0:Int)).length)) os]) A A (eA [1] A) ⟨os,A,a2.done hN⟩
theorem GrOk.srcs' {d:Dev}{g:Gr}{cs:List Int}(h:GrOk d (allI d).toNat g) (E:devB d=true) (B:(cs.length:Int)=allI d) (D:∀k,k<cs.length→1≤cs.getD k 0∧cs.getD k 0≤100000):GrS cs.length (srcI d) (kOf g.ks) cs:=by
  have e:(allI d).toNat=cs.length:=O
  rw[e] at h
  exact h.srcs E B rfl D
theorem rN (d:Dev) (k:Int) (w:World):Calls Tryz.prog 56 #[.agg #[.int .i64 d.W,.int .i64 d.H,.int .i64 d.T,.int .i64 d.R],.int .i64 k] w (Ret w (fun e post=>post=[rI9 3 e (srcI d k)])):=by
  have h:=sV d k w
  rw[Gw] at h
  exact h
open Go.RowKit
def GsOk (d:Dev) (rs:List CRow) (i:Nat):Prop:=rs.length=i∧∀k,k<i→(rs.getD k crow0).xs=srcI d k
theorem GsOk.nil (d:Dev):GsOk d [] 0:=⟨rfl,fun k e=>O⟩
theorem GsOk.app {d:Dev}{rs:List CRow}{i:Nat}(h:GsOk d rs i) {u:CRow}(hu:u.xs=srcI d i):GsOk d (rs++[u]) (i+1):=by
  refine⟨by rw[length_append,h.1];rfl,fun k hk=>?_⟩
  rw[getD_eq_getElem?_getD]
  by_cases hk2:k<i
  · rw[List.getElem?_append_left (by rw[h.1];exact hk2),←getD_eq_getElem?_getD];exact h.2 k hk2
  · have e : k = i := by omega
    subst e
    rw[List.getElem?_append_right (by rw[h.1];exact Nat.le_refl _),h.1,Nat.sub_self];exact hu
theorem qQ (d:Dev) (w:World) (X:devB d=true) :
   Calls Tryz.prog 24 #[.agg #[.int .i64 d.W,.int .i64 d.H,.int .i64 d.T,.int .i64 d.R]] w (Ret w (fun Y Z=>∃(ps:List HP) (rs:List CRow),Z=[bigE ps]∧(∀w,(bigE ps).holds w→RdsCl w Y rs)∧GsOk d rs (allI d).toNat)):=by
 obtain⟨a0,a1⟩:=eM X
 refine aY (N:=19) (args:=[.agg #[jI d.W,jI d.H,jI d.T,jI d.R]]) Tryz.func24 A A (dW ?_)
 refine cU A (cE A A) fun b1=>go ?_
 refine cH A (bU (s:=1) A Tryz.underlying57 A) fun g2=>go ?_
 refine fK _ hF ?_
 refine mS (α:=Nat) (β:=List CRow) (γ:=Value) (δ:=List HP) [0,1,2] A (fun i e ov ps=>[bigE ps,rS9 26 1 ov e crowC,boxE b1 #[jI d.W,jI d.H,jI d.T,jI d.R] 25]) (fun i e ov ps=>[(3,ov),(4,jI (i:Int))]) (fun i e ov ps=>i≤(allI d).toNat∧GsOk d e i∧∀w,(bigE ps).holds w→RdsAll w e) (fun i e ov ps=>(allI d).toNat-i) 0 [] _ [] ⟨Nat.zero_le _,GsOk.nil d,fun w _=>RdsAll.nil w⟩ (bV A) (cZ A) fun i e ov ps J=>go ?_
 obtain⟨hi,B,D⟩:=J
 have a2:=B.1
 refine cM A (aF A A (fun w K=>aI (eX d X w))) (aW A A A A A A (fun h4=>go ?_) (fun h4=>go ?_))
 refine fF A A A (aF A A (fun w K=>rN d (i:Int) w)) fun E p6 R7=>?_
 obtain rfl:=R7
 refine cH A (jC A Tryz.underlying57 F A (fun w K=>(aB 0 A w K).one)) fun g8=>?_
 refine eE (i:=1) A (fun M=>?_)
 refine bT (i:=3) (z:=.slice none 0 0) (bytes:=24) A A A A Tryz.underlying57 F A A A A (aB 0 A) (aC M bH) AC (bK e [(CRow.mk E (srcI d (i:Int)))]) (dP crowC e (CRow.mk E (srcI d (i:Int))) _ A) (fun _=>A) fun U=>go ?_
 refine bN 5 [4,3,1,2] A A V ?_
 refine dN 2 A ?_
 exact dH (i+1) (e++[(CRow.mk E (srcI d (i:Int)))]) U [bigE ps,rowE 3 1 E ((srcI d (i:Int)).length) (mI (srcI d (i:Int)))] ⟨O,B.app A,fun w G=>RdsAll.cons (u:=CRow.mk E (srcI d (i:Int))) (D w (bF G eG)) (cI (bF G (fW eG))) (fun q hq=>(List.mem_append.1 hq).elim .inr (fun h=>.inl (List.mem_singleton.1 h)))⟩ O (bV A) (cZ A)
 refine bN 3 [1,0] A A V ?_
 refine dN 2 A ?_
 exact bM (post:=[bigE [bigE ps,rS9 26 1 ov e crowC]]) rfl rfl (.refl _) ⟨_,e,rfl,fun w G=>⟨cI (bF G (fW eG)),D w (bF G eG)⟩,by rw[show(allI d).toNat=i by omega];exact B⟩
def WsP (d:Dev) (ws:List Int) (i:Nat):Prop:=∀k,k<i→isWireI d (ws.getD k 0)=true∧(0<k→ws.getD (k-1) 0<ws.getD k 0)
instance (d:Dev) (ws:List Int) (i:Nat):Decidable (WsP d ws i):=by unfold WsP;exact inferInstance
def wsB (d:Dev) (ws:List Int):Bool:=devB d&&decide (WsP d ws ws.length)
theorem WsP.snoc {d:Dev}{ws:List Int}{i:Nat}(h:WsP d ws i) (B:isWireI d (ws.getD i 0)=true) (D:0<i→ws.getD (i-1) 0<ws.getD i 0):WsP d ws (i+1):=fun k E=>by
  by_cases e:k=i
  · subst e;exact⟨B,D⟩
  · exact h k O
theorem xG {d:Dev}{ws:List Int}{i:Nat}(e:i<ws.length) (h:¬(isWireI d (ws.getD i 0)=true∧(0<i→ws.getD (i-1) 0<ws.getD i 0))):wsB d ws=false:=by
  unfold wsB;rw[decide_eq_false (fun q=>h (q i e)),Bool.and_false]
theorem tC {d:Dev}{ws:List Int}(h:WsP d ws ws.length):wsB d ws=devB d:=by
  unfold wsB;rw[decide_eq_true h,Bool.and_true]
theorem uP (d:Dev) (ws:List Int) (e:Value) (w:World) (Y:RdsW w e 1 ws.length (ws.map (Value.int .i64))) (Z:ws.length≤1000000) :
   Calls Tryz.prog 19 #[.agg #[.int .i64 d.W,.int .i64 d.H,.int .i64 d.T,.int .i64 d.R],e] w (Ans w (.bool (wsB d ws))):=by
 refine aY (N:=37) (args:=[.agg #[jI d.W,jI d.H,jI d.T,jI d.R],e]) Tryz.func19 A A (dW ?_)
 refine cU A (cE A A) fun b1=>go ?_
 refine lC (α:=Nat) [0,1,2,4] A (fun i=>[boxE b1 #[jI d.W,jI d.H,jI d.T,jI d.R] 25]) (fun i=>[(5,jI (i:Int))]) (fun i=>i≤ws.length∧WsP d ws i) (fun i=>ws.length-i) 0 ⟨Nat.zero_le _,fun k hk=>O⟩ (bV A) (cZ A) fun i K=>go ?_
 obtain⟨hi,B⟩:=K
 refine aW A A A A A A (fun h3=>go ?_) (fun h3=>go ?_)
 rcases eq_false_or_eq_true (isWireI d (ws.getD i 0)) with E|E
 rcases eq_false_or_eq_true (decide (0<(i:Int))) with G|G
 have J:0<(i:Int):=of_decide_eq_true G
 refine bL 23 [[],[],[],[1,2],[3],[0,4],[5],[6],[7],[7,8],[7,9],[10],[10],[10,11,12],[10,13],[10],[10],[10,16],[10,15,17],[10,18],[10,14,19],[7,10,20],[7,21]] [12,13,14,15,16,17,18,19,20,21,22,23,24,25,26,27,28,29,30,31,32,33,34] [.agg #[jI d.W,jI d.H,jI d.T,jI d.R],e,jI (i:Int),elP e ((i:Int).toNat*1),jI (ws.getD i 0),.bool true,.bool false,.bool false,jI (i:Int),.bool true,.bool true,e,jI (i:Int),elP e ((i:Int).toNat*1),jI (ws.getD i 0),e,jI (i:Int),jI ((i:Int)-1),elP e (((i:Int)-1).toNat*1),jI (ws.getD (((i:Int)-1).toNat) 0),.bool (decide (ws.getD i 0≤ws.getD (((i:Int)-1).toNat) 0)),.bool (decide (ws.getD i 0≤ws.getD (((i:Int)-1).toNat) 0)),.bool (decide (ws.getD i 0≤ws.getD (((i:Int)-1).toNat) 0))] F A ?_ ?_
 exact⟨aJ,aJ,aJ,aJ,aJ,.inl ⟨A,iP (aF A A (fun w M=>aI (jT d _ w))) E⟩,aJ,aJ,aJ,aJ,aJ,aJ,aJ,aJ,aJ,aJ,aJ,aJ,aJ,aJ,aJ,aJ,aJ,trivial⟩
 simp only[drop_succ_cons,drop_zero]
 refine go ?_
 refine fO A (fun U=>go ?_) (fun U=>go ?_)
 have X:ws.getD i 0≤ws.getD (((i:Int)-1).toNat) 0:=of_decide_eq_true U
 exact aT A A (by first|(rw[tC (by rw[show ws.length=i by omega];exact B)];first|rfl|simp_all)|(rw[xG (i:=i) O (fun q=>by have D:=q.2;first|(simp_all;done)|(rw[show i-1=((i:Int)-1).toNat by omega] at D;have:=D O;omega))]))
 have X:¬(ws.getD i 0≤ws.getD (((i:Int)-1).toNat) 0):=of_decide_eq_false U
 exact dR (i+1) ⟨O,B.snoc (by first|assumption|simp_all) (fun h=>by first|omega|(rw[show i-1=((i:Int)-1).toNat by omega];omega))⟩ O (bV A) (cZ A)
 have J:¬(0<(i:Int)):=of_decide_eq_false G
 refine bL 23 [[],[],[],[1,2],[3],[0,4],[5],[6],[7],[7,8],[7,9],[10],[10],[10],[10],[10],[10],[10],[10],[10],[10],[7,10,20],[7,21]] [12,13,14,15,16,17,18,19,20,21,22,23,24,25,26,27,28,29,30,31,32,33,34] [.agg #[jI d.W,jI d.H,jI d.T,jI d.R],e,jI (i:Int),elP e ((i:Int).toNat*1),jI (ws.getD i 0),.bool true,.bool false,.bool false,jI (i:Int),.bool false,.bool false,undef,undef,undef,undef,undef,undef,undef,undef,undef,undef,.bool false,.bool false] F A ?_ ?_
 exact⟨aJ,aJ,aJ,aJ,aJ,.inl ⟨A,iP (aF A A (fun w M=>aI (jT d _ w))) E⟩,aJ,aJ,aJ,aJ,aJ,aJ,aJ,aJ,aJ,aJ,aJ,aJ,aJ,aJ,aJ,aJ,aJ,trivial⟩
 simp only[drop_succ_cons,drop_zero]
 refine go ?_
 exact dR (i+1) ⟨O,B.snoc (by first|assumption|simp_all) (fun h=>by first|omega|(rw[show i-1=((i:Int)-1).toNat by omega];omega))⟩ O (bV A) (cZ A)
 refine bL 23 [[],[],[],[1,2],[3],[0,4],[5],[6],[7],[7],[7],[10],[10],[10],[10],[10],[10],[10],[10],[10],[10],[7],[7,21]] [12,13,14,15,16,17,18,19,20,21,22,23,24,25,26,27,28,29,30,31,32,33,34] [.agg #[jI d.W,jI d.H,jI d.T,jI d.R],e,jI (i:Int),elP e ((i:Int).toNat*1),jI (ws.getD i 0),.bool false,.bool true,.bool true,undef,undef,undef,undef,undef,undef,undef,undef,undef,undef,undef,undef,undef,undef,.bool true] F A ?_ ?_
 exact⟨aJ,aJ,aJ,aJ,aJ,.inl ⟨A,iP (aF A A (fun w M=>aI (jT d _ w))) E⟩,aJ,aJ,aJ,aJ,aJ,aJ,aJ,aJ,aJ,aJ,aJ,aJ,aJ,aJ,aJ,aJ,aJ,trivial⟩
 simp only[drop_succ_cons,drop_zero]
 refine go ?_
 exact aT A A (by first|(rw[tC (by rw[show ws.length=i by omega];exact B)];first|rfl|simp_all)|(rw[xG (i:=i) O (fun q=>by have D:=q.2;first|(simp_all;done)|(rw[show i-1=((i:Int)-1).toNat by omega] at D;have:=D O;omega))]))
 refine cM A (aF A A (fun w M=>aI (eT d w))) (bD (fun h7=>go ?_) (fun h7=>go ?_))
 exact(aT A A (by first|(rw[tC (by rw[show ws.length=i by omega];exact B)];first|rfl|simp_all)|(rw[xG (i:=i) O (fun q=>by have D:=q.2;first|(simp_all;done)|(rw[show i-1=((i:Int)-1).toNat by omega] at D;have:=D O;omega))])))
 exact(aT A A (by first|(rw[tC (by rw[show ws.length=i by omega];exact B)];first|rfl|simp_all)|(rw[xG (i:=i) O (fun q=>by have D:=q.2;first|(simp_all;done)|(rw[show i-1=((i:Int)-1).toNat by omega] at D;have:=D O;omega))])))
inductive Rch (d:Dev) (ws:List Int) (s:Int):Int→Prop
  | base:Rch d ws s s
  | step {x y:Int}:Rch d ws s x→x∈srcI d y→0≤y→y<allI d→¬y∈ws→Rch d ws s y
def mkB (bs:List Bl) (x:Int):Bool:=(bs.getD x.toNat bl0).b
def CloB (d:Dev) (ws:List Int) (bs:List Bl) (k:Nat):Prop:=¬(k:Int)∈ws→(∃x∈srcI d k,mkB bs x=true)→mkB bs k=true
structure FixI (d:Dev) (ws:List Int) (s:Int) (bs:List Bl):Prop where
  len:bs.length=(allI d).toNat
  src:mkB bs s=true
  snd:∀x:Int,0≤x→x<allI d→mkB bs x=true→Rch d ws s x
theorem jE {B:List Bl}{k:Nat}{c:Bl}(D:k<B.length) (E:c.b=true) {x:Int}(G:0≤x):mkB (B.set k c) x=true↔x=k∨mkB B x=true:=by
  unfold mkB
  rw[Iy D]
  by_cases e:k=x.toNat
  · rw[if_pos e];exact⟨fun _=>.inl O,fun _=>E⟩
  · rw[if_neg e];exact⟨.inr,fun h=>h.elim (fun h=>absurd O e) id⟩
theorem FixI.put {d:Dev}{ws:List Int}{s:Int}{e:List Bl}(h:FixI d ws s e) (M:0≤s) {k:Nat}{c:Bl}(J:c.b=true) (hk:(k:Int)<allI d) (U:¬(k:Int)∈ws) {x:Int}(X:x∈srcI d k) (B:0≤x) (D:x<allI d) (Y:mkB e x=true):FixI d ws s (e.set k c):=by
  have Z:=h.len
  refine⟨by rw[length_set];exact Z,(jE O J M).2 (.inr h.src),fun y E K G=>?_⟩
  rcases(jE O J E).1 G with rfl|G
  · exact .step (h.snd x B D Y) X E K U
  · exact h.snd y E K G
theorem FixI.all {d:Dev}{ws:List Int}{s:Int}{B:List Bl}(h:FixI d ws s B) (E:∀k,k<(allI d).toNat→CloB d ws B k) {x:Int}(D:Rch d ws s x):mkB B x=true:=by
  induction D with
  | base=>exact h.src
  | @step x y _ D y0 y1 hw ih=>
    have e:((y.toNat:Nat):Int)=y:=O
    have:=E y.toNat O
    unfold CloB at this;rw[e] at this
    exact this hw ⟨x,D,ih⟩
theorem FixI.iff {d:Dev}{ws:List Int}{s:Int}{e:List Bl}(h:FixI d ws s e) (B:∀k,k<(allI d).toNat→CloB d ws e k) {x:Int}(D:0≤x) (E:x<allI d):mkB e x=true↔Rch d ws s x:=⟨h.snd x D E,h.all B⟩
theorem FixI.start {d:Dev}{ws:List Int}{s:Int}(h0:0≤s) (h1:s<allI d) {c:Bl}(hc:c.b=true) {N:Nat}(hN:N=(allI d).toNat):FixI d ws s ((replicate N bl0).set s.toNat c):=by
  subst hN
  have hl:(replicate (allI d).toNat bl0).length=(allI d).toNat:=length_replicate
  have h9:∀x:Int,0≤x→mkB (replicate (allI d).toNat bl0) x=false:=fun x _=>by unfold mkB;rw[lT]
  refine⟨by rw[length_set];exact hl,(jE (by omega) hc h0).2 (.inl (by omega)),fun x x0 x1 hx=>?_⟩
  rcases(jE (by omega) hc x0).1 hx with e|e
  · have : x = s := by omega
    subst this;exact .base
  · rw[h9 x x0] at e;cases e
structure RndI (d:Dev) (ws:List Int) (s:Int) (bs bs2:List Bl) (ag:Bool) (k:Nat):Prop where
  fix:FixI d ws s bs2
  le:cntF bs2≤cntF bs
  lt:ag=true→cntF bs2<cntF bs
  clo:ag=false→∀j,j<k→CloB d ws bs2 j
theorem RndI.start {d:Dev}{ws:List Int}{s:Int}{B:List Bl}(h:FixI d ws s B):RndI d ws s B B false 0:=⟨h,Nat.le_refl _,(fun e=>by cases e),fun _ j D=>O⟩
theorem RndI.next {d:Dev}{ws:List Int}{s:Int}{E B:List Bl}{D:Bool}{k:Nat}(h:RndI d ws s E B D k) (G:D=false→CloB d ws B k):RndI d ws s E B D (k+1):=⟨h.fix,h.le,h.lt,fun e j K=>by
  by_cases J:j=k
  · subst J;exact G e
  · exact h.clo e j O⟩
theorem RndI.put {d:Dev}{ws:List Int}{s:Int}{G B:List Bl}{K:Bool}{k:Nat}(h:RndI d ws s G B K k) (M:0≤s) {c:Bl}(J:c.b=true) (U:(k:Int)<allI d) (X:¬(k:Int)∈ws) (Y:mkB B k=false) {x:Int}(Z:x∈srcI d k) (D:0≤x) (E:x<allI d) (hb:mkB B x=true):RndI d ws s G (B.set k c) true k:=by
  have hl:=h.fix.len
  have h9:=rH B k c O (by have:=Y;unfold mkB at this;simpa using this) J
  have:=h.le
  exact⟨h.fix.put M J U X Z D E hb,O,fun _=>O,fun e=>by cases e⟩
theorem RndI.less {d:Dev}{ws:List Int}{s:Int}{D B:List Bl}{e:Bool}{k:Nat}(h:RndI d ws s D B e k) {E:Bool}(G:E=true):2*cntF B+(if e=true then 1 else 0)<2*cntF D+(if E=true then 1 else 0):=by
  subst G
  have J:=h.le
  cases e with
  | false=>simp;omega
  | true=>have K:=h.lt rfl;simp;omega
theorem vO {d:Dev}{ws:List Int}{e:List Bl}{k:Nat}(h:(e.getD ((k:Int).toNat) bl0).b=true):CloB d ws e k:=fun _ _=>h
theorem zC {d:Dev}{ws:List Int}{e:List Bl}{k:Nat}(h:(k:Int)∈ws):CloB d ws e k:=fun B _=>absurd h B
theorem vP {d:Dev}{ws:List Int}{B:List Bl}{k:Nat}(h:∀j,j<(srcI d k).length→mkB B ((srcI d k).getD j 0)=false):CloB d ws B k:=fun _ ⟨x,E,G⟩=>by
  obtain⟨j,D,e⟩:=List.getElem_of_mem E
  have:=h j D
  rw[getD_eq_getElem?_getD,List.getElem?_eq_getElem D,Option.getD_some,e,G] at this
  cases this
theorem vW (n:Int) (ws:List Int) (D:Value) (w:World) (B:RdsW w D 1 ws.length (ws.map (Value.int .i64))) (J:ws.length≤1000000) (hn:0≤n∧n≤1000000) (E:∀k,k<ws.length→0≤ws.getD k 0∧ws.getD k 0<n) :
   Calls Tryz.prog 27 #[.int .i64 n,D] w (Ret w (fun K M=>∃e:List Bl,M=[rS9 4 1 K e blC]∧WsM n.toNat ws ws.length e)):=by
 refine aY (N:=22) (args:=[jI n,D]) Tryz.func27 A A (cF 1 A (aG (cN 1 A ?_)))
 refine cH A (fB (z:=.bool false) (s:=1) (bytes:=1) (n:=(replicate n.toNat bl0).length) (cs:=((replicate n.toNat bl0).flatMap blC)) A Tryz.underlying61 A V A A AB AB AF (fZ blC 1 (fun _=>A) bl0 _ A n.toNat)) fun U=>go ?_
 refine iG (α:=Nat) (β:=List Bl) [0,1,4,5] A (fun i e=>[rS9 4 1 (.slice (some ⟨U,0,none⟩) ((replicate n.toNat bl0).length) ((replicate n.toNat bl0).length)) e blC]) (fun i e=>[(6,jI (i:Int))]) (fun i e=>i≤ws.length∧WsM n.toNat ws i e) (fun i e=>ws.length-i) 0 (replicate n.toNat bl0) ⟨Nat.zero_le _,wJ _ _⟩ (bV A) (cZ A) fun i e G=>go ?_
 obtain⟨hi,h⟩:=G
 have X:=h.len
 refine aW A A A A A A (fun Y=>go ?_) (fun Y=>go ?_)
 refine aN A (cV 1 A A A A (aE B)) ?_
 have Z:=E i O
 refine aN A (lD A A A (aE B)) (aN A (cV 1 A A A A (aB 0 A)) ?_)
 refine dS (i:=0) (n':=(e.set ((ws.getD i 0).toNat) { e.getD ((ws.getD i 0).toNat) bl0 with b:=true }).length) A A A A A A A A AA List.length_set.symm (eF blC (fun r=>.bool r.b) (fun _=>A) _ ({ e.getD ((ws.getD i 0).toNat) bl0 with b:=true }) A) A (go ?_)
 exact bO (i+1) (e.set ((ws.getD i 0).toNat) { e.getD ((ws.getD i 0).toNat) bl0 with b:=true }) ⟨O,h.more O O A⟩ O (bV A) (cZ A)
 exact bM A A (.refl _) ⟨e,A,by have h9:=h;rwa [show i=ws.length by omega] at h9⟩
theorem yJ (d:Dev) (rs:List CRow) (gv:Value) (s:Int) (ws:List Int) (bb:List Bl) (bv:Value) (w:World) (hd:devB d=true) (D:RdsCl w gv rs) (K:GsOk d rs (allI d).toNat) (a0:0≤s) (a3:s<allI d) (a1:RdsW w bv 1 bb.length (bb.flatMap blC)) (ae:bb.length=(allI d).toNat) (X:∀x:Int,0≤x→x<allI d→((bb.getD x.toNat bl0).b=true↔x∈ws)) :
   Calls Tryz.prog 57 #[gv,.int .i64 s,bv] w (Ret w (fun u_ p_=>∃J:List Bl,p_=[rS9 4 1 u_ J blC]∧J.length=(allI d).toNat∧∀x:Int,0≤x→x<allI d→(mkB J x=true↔Rch d ws s x))):=by
 obtain⟨af,ah⟩:=eM hd
 have a4:=K.1
 have ai:(replicate rs.length bl0).length=rs.length:=length_replicate
 refine aY (N:=61) (args:=[gv,jI s,bv]) Tryz.func57 A A (cF 1 A (aG (cN 1 A (aN A (eV A A A (aE D.row)) ?_))))
 refine cH A (fB (z:=.bool false) (s:=1) (bytes:=1) (n:=(replicate rs.length bl0).length) (cs:=((replicate rs.length bl0).flatMap blC)) A Tryz.underlying61 A V A A AB AB AF (fZ blC 1 (fun _=>A) bl0 _ A rs.length)) ?_
 intro g1
 refine bG 1 A (aG (cN 2 A (aN A (cV 1 A A A A (aB 0 A)) ?_)))
 refine dS (i:=0) (n':=((replicate rs.length bl0).set (s.toNat) { (replicate rs.length bl0).getD (s.toNat) bl0 with b:=true }).length) A A A A A A A A AA List.length_set.symm (eF blC (fun r=>.bool r.b) (fun _=>A) _ ({ (replicate rs.length bl0).getD (s.toNat) bl0 with b:=true }) A) A (dL (cF 1 A (jR ?_)))
 refine iG (α:=List Bl) (β:=Bool) [0,1,2,6,7] A (fun J ag=>[rS9 4 1 (.slice (some ⟨g1,0,none⟩) ((replicate rs.length bl0).length) ((replicate rs.length bl0).length)) J blC]) (fun J ag=>[(8,.bool ag)]) (fun J ag=>FixI d ws s J∧(ag=false→∀k,k<(allI d).toNat→CloB d ws J k)) (fun J ag=>2*cntF J+(if ag=true then 1 else 0)) ((replicate rs.length bl0).set (s.toNat) { (replicate rs.length bl0).getD (s.toNat) bl0 with b:=true }) true ⟨FixI.start a0 a3 A a4,fun e=>by cases e⟩ (bV A) (cZ A) ?_
 intro J ag a5
 obtain⟨Y,a6⟩:=a5
 have aj:=Y.len
 refine aG (aG (cN 1 A ?_))
 refine bD (fun h3=>?_) (fun h3=>?_)
 refine dL (aR A (eC (bS (cF 1 A (aG ?_)))))
 refine bP (bG 1 A (bS ?_))
 refine fP (α:=Nat) (β:=List Bl) (γ:=Bool) [0,1,2,6,7,17] A (fun k E G=>[rS9 4 1 (.slice (some ⟨g1,0,none⟩) ((replicate rs.length bl0).length) ((replicate rs.length bl0).length)) E blC]) (fun k E G=>[(8,.bool G),(9,jI (k:Int))]) (fun k E G=>k≤(allI d).toNat∧RndI d ws s J E G k) (fun k E G=>(allI d).toNat-k) 0 J false ⟨Nat.zero_le _,RndI.start Y⟩ (bV A) (cZ A) ?_
 intro k E G a7
 obtain⟨hk,U⟩:=a7
 have ac:=U.fix.len
 refine aG (aG (cN 2 A (aN A (eV A A A (aE D.row)) ?_)))
 refine aW A A A A A A (fun h5=>?_) (fun h5=>?_)
 refine dL (aR A (eC (jR (cF 1 A ?_))))
 refine bS ?_
 refine fP (α:=Nat) (β:=List Bl) (γ:=Bool) [0,1,2,6,7,9,17,21] A (fun i h B=>[rS9 4 1 (.slice (some ⟨g1,0,none⟩) ((replicate rs.length bl0).length) ((replicate rs.length bl0).length)) h blC]) (fun i h B=>[(8,.bool B),(10,jI (i:Int))]) (fun i h B=>i≤(rs.getD k crow0).xs.length∧RndI d ws s J h B k∧(B=false→∀j,j<i→mkB h ((srcI d k).getD j 0)=false)) (fun i h B=>(rs.getD k crow0).xs.length-i) 0 E G ⟨Nat.zero_le _,U,fun _ j hj=>O⟩ (bV A) (cZ A) ?_
 intro i h B a8
 obtain⟨hi,M,Z⟩:=a8
 have ad:=M.fix.len
 have ak:(rs.getD k crow0).xs.length≤1000:=by rw[K.2 k O];exact tV d _
 refine aG (aG (cN 3 A (aN A (cV 1 A A A A (aE D.row)) ?_)))
 refine aN A (aL (u:=(rs.getD k crow0).v) A A A (aE D.row) (dF crowC (fun r=>r.v) (fun _=>A) rs crow0 (show k<_ by omega))) (aN A (eV A A A (aE (D.at (k:=k) O))) ?_)
 refine aW A A A A A A (fun h7=>?_) (fun h7=>?_)
 refine aS 3 A (aN A (cV 1 A A A A (aB 0 A)) ?_)
 refine aN A (aL (u:=.bool ((h.getD k bl0).b)) A A A (aB 0 A) (dF blC (fun r=>.bool r.b) (fun _=>A) h bl0 (show k<_ by omega))) (bD (fun h8=>?_) (fun h8=>?_))
 refine bG 9 A (aV A ?_)
 refine bW (fM ?_)
 refine aO (eB (cN 1 A (aN A (eY A A A) (eS 1 A ?_))))
 exact aQ (k+1) h B ⟨O,M.next (fun e=>by first|exact vO I|exact zC ((X k O O).1 I)|exact vP (fun j hj=>Z e j (by rw[←K.2 k O] at hj;omega)))⟩ O (bV A) (cZ A)
 refine aS 5 A (aN A (cV 1 A A A A (aE a1)) ?_)
 refine aN A (aL (u:=.bool ((bb.getD k bl0).b)) A A A (aE a1) (dF blC (fun r=>.bool r.b) (fun _=>A) bb bl0 (show k<_ by omega))) (bD (fun h9=>?_) (fun h9=>?_))
 refine bG 2 A (aV A ?_)
 refine bW (fM ?_)
 refine aO (eB (cN 1 A (aN A (eY A A A) (eS 1 A ?_))))
 exact aQ (k+1) h B ⟨O,M.next (fun e=>by first|exact vO I|exact zC ((X k O O).1 I)|exact vP (fun j hj=>Z e j (by rw[←K.2 k O] at hj;omega)))⟩ O (bV A) (cZ A)
 refine bG 2 A (aR A (eC (jR (aG (cN 3 A (aN A (cV 1 A A A A (aE D.row)) ?_))))))
 refine aN A (aL (u:=(rs.getD k crow0).v) A A A (aE D.row) (dF crowC (fun r=>r.v) (fun _=>A) rs crow0 (show k<_ by omega))) (aS 1 A (aN A (cV 1 A A A A (aE (D.at (k:=k) O))) ?_))
 have a2:((rs.getD k crow0).xs.getD i 0)∈srcI d k:=by rw[←K.2 k O];exact dV O
 obtain⟨a9,aa⟩:=lH a2
 refine aN A (aL (u:=jI (((rs.getD k crow0).xs).getD i 0)) A A A (aE (D.at (k:=k) O)) (cJ (show _<((rs.getD k crow0).xs).length by omega))) (aN A (cV 1 A A A A (aB 0 A)) ?_)
 refine aN A (aL (u:=.bool ((h.getD ((((rs.getD k crow0).xs).getD i 0).toNat) bl0).b)) A A A (aB 0 A) (dF blC (fun r=>.bool r.b) (fun _=>A) h bl0 (show(((rs.getD k crow0).xs).getD i 0).toNat<_ by omega))) (bD (fun ab=>?_) (fun ab=>?_))
 refine dL (aR A (aG (cN 2 A (aN A (cV 1 A A A A (aB 0 A)) ?_))))
 refine dS (i:=0) (n':=(h.set k { h.getD k bl0 with b:=true }).length) A A A A A A A A AA List.length_set.symm (eF blC (fun r=>.bool r.b) (fun _=>A) _ ({ h.getD k bl0 with b:=true }) A) A (dL (bP (eS 1 A (eB (cN 1 A (aN A (eY A A A) (aS 1 A (?_))))))))
 exact cP (aQ (i+1) (h.set k { h.getD k bl0 with b:=true }) true ⟨O,M.put a0 A O (fun h9=>by have h8:=(X k O O).2 h9;simp_all) (by unfold mkB;assumption) a2 a9 aa (by unfold mkB;assumption),fun e=>by cases e⟩ O (bV A) (cZ A))
 refine dL (jQ A (eB (cN 1 A (aN A (eY A A A) (eS 1 A ?_)))))
 exact aQ (i+1) h B ⟨O,M,fun e j hj=>by
   by_cases e2:j=i
   · subst e2;rw[←K.2 k O];unfold mkB;assumption
   · exact Z e j O⟩ O (bV rfl) (cZ rfl)
 refine bG 14 A (aV A ?_)
 refine bW (fM ?_)
 refine aO (eB (cN 1 A (aN A (eY A A A) (eS 1 A ?_))))
 exact aQ (k+1) h B ⟨O,M.next (fun e=>by first|exact vO I|exact zC ((X k O O).1 I)|exact vP (fun j hj=>Z e j (by rw[←K.2 k O] at hj;omega)))⟩ O (bV A) (cZ A)
 refine dL (aV A ?_)
 refine bW (fM ?_)
 refine aO (cG ?_)
 exact bO E G ⟨U.fix,fun e j hj=>U.clo e j O⟩ (U.less I) (bV A) (cZ A)
 refine dL (aV A ?_)
 refine bW (fM ?_)
 refine aO (bB (cF 2 A ?_))
 exact cW (bM A A (.refl _) ⟨J,A,Y.len,fun x x0 x1=>Y.iff (a6 I) x0 x1⟩)
open Go.RowKit
theorem Fm {d:Dev}{t p:Int}(h:0≤outPinI d t p):outPinI d t p<allI d:=by
  by_cases hc:0≤p∧p<outPinsI (tileKindI d t)
  · have e := (gA d t p).1 hc
    obtain⟨r0,r1,r2⟩:=qI d t
    obtain⟨hv,t0,t1⟩:=(fC _ _).1 (r2 (by omega))
    obtain⟨q1,q2⟩:=fR hv
    have e7:t*perI d≤(d.W*d.H-1)*perI d:=Int.mul_le_mul_of_nonneg_right (by omega) (by omega)
    have e6:(d.W*d.H-1)*perI d=allI d-perI d:=by rw[Int.sub_mul,Int.one_mul];rfl
    omega
  · rw[(gA d t p).2 hc] at h;omega
theorem Ie {d:Dev}{t p:Int}(h:0≤inPinI d t p):inPinI d t p<allI d:=by
  by_cases hc:0≤p∧p<inPinsI (tileKindI d t)
  · have e := (iR d t p).1 hc
    obtain⟨r0,r1,r2⟩:=Ej d t
    obtain⟨hv,t0,t1⟩:=(fC _ _).1 (r2 (by omega))
    obtain⟨q1,q2⟩:=fR hv
    have e7:t*perI d≤(d.W*d.H-1)*perI d:=Int.mul_le_mul_of_nonneg_right (by omega) (by omega)
    have e6:(d.W*d.H-1)*perI d=allI d-perI d:=by rw[Int.sub_mul,Int.one_mul];rfl
    omega
  · rw[(iR d t p).2 hc] at h;omega
theorem xM {d:Dev}{pl:List Int}{c:Cn}(h:0≤srcN d pl c):srcN d pl c<allI d:=by
  unfold srcN at h ⊢
  by_cases e:0≤c.sb∧c.sb<pl.length
  · rw[if_pos e] at h ⊢;exact Fm h
  · rw[if_neg e] at h;omega
theorem nN {d:Dev}{pl:List Int}{ks:List Pn}{q:Int}(h:q∈snkG d pl ks):0≤q∧q<allI d:=by
  unfold snkG at h
  split at h
  · rename_i hk
    unfold snkL at h
    obtain⟨p,hp,rfl⟩:=List.mem_map.1 h
    have:=(hk p (List.mem_of_mem_take hp)).2
    exact⟨this,Ie this⟩
  · cases h
theorem mN (d:Dev) (pl:List Int) (e:List Pn):(snkG d pl e).length≤e.length:=by
  unfold snkG;split
  · rw[tF _ _ (Nat.le_refl _)];exact Nat.le_refl _
  · exact Nat.zero_le _
structure CnB (c:Cn):Prop where
  p0 : -1000≤c.sp
  p1:c.sp≤1000
  kl:c.ks.length≤120
  kp:∀k,k<c.ks.length→-1000≤(c.ks.getD k pn0).p∧(c.ks.getD k pn0).p≤1000
def ApP (d:Dev) (pl:List Int) (c:Cn) (ws:List Int):Prop:=0≤srcN d pl c∧∃q∈snkG d pl c.ks,¬Rch d ws (srcN d pl c) q
noncomputable def apB (d:Dev) (pl:List Int) (c:Cn) (ws:List Int):Bool:=@decide (ApP d pl c ws) (Classical.propDecidable _)
theorem tM {d:Dev}{pl:List Int}{c:Cn}{ws:List Int}:apB d pl c ws=true↔ApP d pl c ws:=by unfold apB;exact @decide_eq_true_iff _ (Classical.propDecidable _)
theorem rI {d:Dev}{pl:List Int}{c:Cn}{ws:List Int}(e:0≤srcN d pl c) {i:Nat}(B:i<(snkG d pl c.ks).length) (h:¬Rch d ws (srcN d pl c) ((snkG d pl c.ks).getD i 0)):apB d pl c ws=true:=tM.2 ⟨e,_,dV B,h⟩
theorem sC {d:Dev}{pl:List Int}{c:Cn}{ws:List Int}(h:∀i,i<(snkG d pl c.ks).length→Rch d ws (srcN d pl c) ((snkG d pl c.ks).getD i 0)):apB d pl c ws=false:=by
  rw[Bool.eq_false_iff];intro D
  obtain⟨-,q,E,G⟩:=tM.1 D
  obtain⟨i,B,e⟩:=List.getElem_of_mem E
  have:=h i B
  rw[getD_eq_getElem?_getD,List.getElem?_eq_getElem B,Option.getD_some,e] at this
  exact G this
theorem rJ {d:Dev}{pl:List Int}{c:Cn}{ws:List Int}(h:srcN d pl c<0):apB d pl c ws=false:=by
  rw[Bool.eq_false_iff];intro e
  have:=(tM.1 e).1;omega
theorem yL (d:Dev) (rs:List CRow) (gv:Value) (pl:List Int) (pv:Value) (c:Cn) (ws:List Int) (K:List Bl) (bv:Value) (w:World) (hd:devB d=true) (a1:RdsCl w gv rs) (M:GsOk d rs (allI d).toNat) (U:RdsW w pv 1 pl.length (pl.map (Value.int .i64))) (X:pl.length≤64) (hc:RdsW w c.kv 2 c.ks.length (c.ks.flatMap pnC)) (h:CnB c) (a2:RdsW w bv 1 K.length (K.flatMap blC)) (a3:K.length=(allI d).toNat) (a4:∀x:Int,0≤x→x<allI d→((K.getD x.toNat bl0).b=true↔x∈ws)) :
   Calls Tryz.prog 26 #[gv,.agg #[.int .i64 d.W,.int .i64 d.H,.int .i64 d.T,.int .i64 d.R],pv,.agg #[.int .i64 c.nd,.int .i64 c.sb,.int .i64 c.sp,c.kv],bv] w (Ans w (.bool (apB d pl c ws))):=by
 obtain⟨a7,a8⟩:=eM hd
 have a9:=M.1
 have aa:=mN d pl c.ks
 have ab:=h.kl
 refine aY (N:=43) (args:=[gv,.agg #[jI d.W,jI d.H,jI d.T,jI d.R],pv,.agg #[jI c.nd,jI c.sb,jI c.sp,c.kv],bv]) Tryz.func26 A A (dW ?_)
 refine cU A (cE A A) fun b1=>?_
 refine cU A (cE A A) fun b2=>go ?_
 refine cM A (aF A A (fun w J=>aI (lM d pl _ c w (U.below J.bel) X h.p0 h.p1 hc.one))) (go ?_)
 refine fF A A A (aF A A (fun w J=>lZ d pl _ c w (U.below J.bel) X (hc.below J.bel) h.kl h.kp)) fun v3 p4 R5=>?_
 obtain rfl:=R5
 refine go ?_
 refine aW A A A A A A (fun h6=>go ?_) (fun h6=>go ?_)
 exact aT A A (by first|rw[rJ O]|rw[sC (fun j hj=>B j O)]|rw[rI (i:=i) O O (fun Y=>by have Z:=(D _ E G).2 Y;unfold mkB at Z;simp_all)])
 refine fF A A A (aF A A (fun w J=>yJ d rs _ (srcN d pl c) ws K _ w hd (a1.below J.bel) M O (xM O) (a2.below J.bel) a3 a4)) fun v7 p8 R9=>?_
 obtain⟨bs,rfl,ac,D⟩:=R9
 refine go ?_
 refine lC (α:=Nat) [0,1,2,3,4,6,8,10,11,12,13,24] A (fun i=>[rS9 4 1 v7 bs blC,rowE 3 1 v3 ((snkG d pl c.ks).length) (mI (snkG d pl c.ks)),boxE b2 #[jI c.nd,jI c.sb,jI c.sp,c.kv] 44,boxE b1 #[jI d.W,jI d.H,jI d.T,jI d.R] 25]) (fun i=>[(14,jI (i:Int))]) (fun i=>i≤(snkG d pl c.ks).length∧∀j,j<i→Rch d ws (srcN d pl c) ((snkG d pl c.ks).getD j 0)) (fun i=>(snkG d pl c.ks).length-i) 0 ⟨Nat.zero_le _,fun j hj=>O⟩ (bV A) (cZ A) fun i a0=>go ?_
 obtain⟨hi,B⟩:=a0
 refine aW A A A A A A (fun a5=>go ?_) (fun a5=>go ?_)
 refine aN A (cV 1 A A A A (aB 1 A)) ?_
 obtain⟨E,G⟩:=nN (dV (show i<(snkG d pl c.ks).length by omega))
 refine aN A (aL (u:=jI ((snkG d pl c.ks).getD i 0)) A A A (aB 1 A) (cJ (show _<(snkG d pl c.ks).length by omega))) (aN A (cV 1 A A A A (aB 0 A)) ?_)
 refine aN A (aL (u:=.bool ((bs.getD (((snkG d pl c.ks).getD i 0).toNat) bl0).b)) A A A (aB 0 A) (dF blC (fun r=>.bool r.b) (fun _=>A) bs bl0 (show((snkG d pl c.ks).getD i 0).toNat<_ by omega))) (bD (fun a6=>go ?_) (fun a6=>go ?_))
 exact dR (i+1) ⟨O,fun j hj=>by
   by_cases e:j=i
   · subst e;exact(D _ E G).1 (by unfold mkB;assumption)
   · exact B j O⟩ O (bV rfl) (cZ rfl)
 exact aT A A (by first|rw[rJ O]|rw[sC (fun j hj=>B j O)]|rw[rI (i:=i) O O (fun Y=>by have Z:=(D _ E G).2 Y;unfold mkB at Z;simp_all)])
 exact aT A A (by first|rw[rJ O]|rw[sC (fun j hj=>B j O)]|rw[rI (i:=i) O O (fun Y=>by have Z:=(D _ E G).2 Y;unfold mkB at Z;simp_all)])
open Go.RowKit
theorem Ev {c:Cn}(B : -1000≤c.sp) (D:c.sp≤1000) {q:Pn}(h:c.ks=[q]) (E : -1000≤q.p∧q.p≤1000):CnB c:=⟨B,D,by rw[h];simp,fun k e=>by
  rw[h] at e ⊢
  obtain rfl:k=0:=by simpa using e
  exact E⟩
theorem Gi {us ws:List Cn}{c:Cn}(h:∀q∈us,CnB q) (B:CnB c) (D:∀q∈ws,q∈us∨q=c):∀q∈ws++[c],CnB q:=fun q E=>(List.mem_append.1 E).elim (fun e=>(D q e).elim (h q) (fun e=>by rw[e];exact B)) (fun e=>by rw[List.mem_singleton.1 e];exact B)
theorem Fs {w:World}{us ws:List Cn}{c:Cn}(h:KsR w us) (B:RdsW w c.kv 2 c.ks.length (c.ks.flatMap pnC)) (D:∀q∈ws,q∈us∨q=c):KsR w (ws++[c]):=fun q E=>(List.mem_append.1 E).elim (fun e=>(D q e).elim (h q) (fun e=>by rw[e];exact B)) (fun e=>by rw[List.mem_singleton.1 e];exact B)
theorem Di (g:Nat) (a:Option Addr) (len cap:Nat) (z:List Int) (n:Int) (w0:World) (l:List HP) (w:World) (hm0:Mem w0 (curE g a len cap::l) w) (hb:BRow .u8 w0 a len cap z) (hn:n≤1000000) :
   Calls Tryz.prog 47 #[.pointer (some ⟨g,0,none⟩),.int .i64 n] w (fun e_ w_=>∃v_ p_,e_=.returned v_∧(fun u_ p_=>(∃x:Int,u_=.int .i64 x∧0≤x∧x≤1000000)∧p_=curE g a len cap) v_ p_∧Mem w0 (p_::l) w_):=by
  by_cases h:1≤n
  · refine (dT g a len cap z n w0 l w hm0 hb ⟨h, by omega⟩).mono ?_
    rintro e w' ⟨v,p,he,⟨⟨x,hx,h0,h1⟩,hp⟩,hm⟩
    exact⟨v,p,he,⟨⟨x,hx,h0,by omega⟩,hp⟩,hm⟩
  · refine (vT g a len cap z n w0 l w hm0 (by omega)).mono ?_
    rintro e w' ⟨v,p,he,⟨hx,hp⟩,hm⟩
    exact⟨v,p,he,⟨⟨0,hx,Int.le_refl _,by decide⟩,hp⟩,hm⟩
theorem Ew {cs:List Cn}{c:Cn}(h:∀q∈cs,CnB q) (B:CnB c):∀q∈cs++[c],CnB q:=fun q D=>(List.mem_append.1 D).elim (h q) (fun e=>by rw[List.mem_singleton.1 e];exact B)
theorem kO (g:Nat) (a:Option Addr) (e h:Nat) (z:List Int) (K:Int) (w0:World) (l:List HP) (w:World) (G:Mem w0 (curE g a e h::l) w) (J:BRow .u8 w0 a e h z) (hK:0≤K∧K≤1000000) :
   Calls Tryz.prog 49 #[.pointer (some ⟨g,0,none⟩),.int .i64 K] w (fun e_ w_=>∃X D,e_=.returned X∧(fun E D=>(∃x:Int,E=.int .i64 x∧-9223372036854775808≤x∧x≤9223372036854775807)∧D=curE g a e h) X D∧Mem w0 (D::l) w_):=by
 refine gE (N:=16) (args:=[pI g,jI K]) Tryz.func49 A A G (cF 1 A (aG (aG (cN 1 A ?_))))
 refine cR (R:=(fun E D=>(∃b:Bool,E=.bool b)∧D=curE g a e h)) 0 A A A A A (fun l' w B=>qL B J (15) O O) fun v1 p2 R3=>?_
 obtain⟨⟨x3,rfl⟩,rfl⟩:=R3
 refine dO (l':=(curE g a e h::l)) A ?_
 refine bD (fun h4=>go ?_) (fun h4=>go ?_)
 refine cH A (aH (z:=jI 0) (s:=1) (cs:=(mI [-1,K,K+1,9223372036854775807, -9223372036854775808])) A z8 A V A F A) fun Y=>?_
 refine jP (R:=(fun E D=>(∃x:Int,E=jI x∧x∈([(-1),K,(K+1),9223372036854775807,(-9223372036854775808)]:List Int))∧D=curE g a e h)) 1 A A A A A (fun L w hX B=>iV g a e h z (.slice (some ⟨Y,0,none⟩) 5 5) ([(-1),K,(K+1),9223372036854775807,(-9223372036854775808)]:List Int) _ _ _ B J (fun w B=>Fj (hX w B) 0 A) AI) fun v6 p7 R8=>?_
 obtain⟨⟨x8,rfl,m8⟩,rfl⟩:=R8
 refine dO (l':=(rowE 3 1 (.slice (some ⟨Y,0,none⟩) 5 5) 5 (mI [-1,K,K+1,9223372036854775807, -9223372036854775808])::curE g a e h::l)) A (go ?_)
 exact fU (rs:=[.tmp 4]) (vs:=[jI x8]) A ⟨A,trivial⟩ A (fun w B=>⟨_,curE g a e h,A,⟨⟨_,A,by first|omega|(simp only[List.mem_cons,List.not_mem_nil,or_false] at *;omega)⟩,A⟩,B.sub (.cons _ (.refl _))⟩)
 refine cR (R:=(fun E D=>(∃x:Int,E=jI x∧0≤x∧x≤1000000)∧D=curE g a e h)) 0 A A A A A (fun l' w B=>Di g a e h z K _ _ _ B J O) fun v9 a1 M=>?_
 obtain⟨⟨U,rfl,Z,a0⟩,rfl⟩:=M
 refine dO (l':=(curE g a e h::l)) A (go ?_)
 exact fU (rs:=[.tmp 4]) (vs:=[jI U]) A ⟨A,trivial⟩ A (fun w B=>⟨_,curE g a e h,A,⟨⟨_,A,by first|omega|(simp only[List.mem_cons,List.not_mem_nil,or_false] at *;omega)⟩,A⟩,B.sub (.refl _)⟩)
theorem Cy (g:Nat) (a:Option Addr) (e h:Nat) (z:List Int) (w0:World) (l:List HP) (w:World) (a5:Mem w0 (curE g a e h::l) w) (U:BRow .u8 w0 a e h z) :
   Calls Tryz.prog 79 #[.pointer (some ⟨g,0,none⟩)] w (fun e_ w_=>∃v_ E,e_=.returned v_∧(fun G E=>(∃d:Dev,G=.agg #[.int .i64 d.W,.int .i64 d.H,.int .i64 d.T,.int .i64 d.R])∧E=curE g a e h) v_ E∧Mem w0 (E::l) w_):=by
 refine gE (N:=33) (args:=[pI g]) Tryz.func79 A A a5 (dW ?_)
 refine cU A (bY (z:=.agg #[jI 0,jI 0,jI 0,jI 0]) A A) ?_
 intro J
 refine dL (aG (cN 1 A ?_))
 refine cR (R:=(fun G E=>(∃d:Dev,Drawn d∧G=.agg #[jI d.W,jI d.H,jI d.T,jI d.R])∧E=curE g a e h)) 1 A A A A A (fun l' w B=>vI B U) ?_
 intro v2 p3 R4
 obtain⟨⟨d,hdr,rfl⟩,rfl⟩:=R4
 refine dO (l':=(boxE J #[jI 0,jI 0,jI 0,jI 0] 25::curE g a e h::l)) A ?_
 refine cU A (bY (z:=.agg #[jI 0,jI 0,jI 0,jI 0]) A A) ?_
 intro K
 refine cA (cs':=#[jI d.W,jI d.H,jI d.T,jI d.R]) (i:=0) (off:=0) (us:=[jI d.W,jI d.H,jI d.T,jI d.R]) A A A A A A A (aC A (aC A (aC A (aC A bH)))) A A A (dL ?_)
 refine rA (α:=Dev) (fun D=>(boxE K #[jI D.W,jI D.H,jI D.T,jI D.R] 25::boxE J #[jI 0,jI 0,jI 0,jI 0] 25::curE g a e h::l)) (fun D=>[(0,pI g),(2,pI J),(3,pI K)]) (fun D=>True) ?_ ?_
 refine aG (cN 1 A ?_)
 refine cR (R:=(fun G E=>(∃x_:Int,G=jI x_∧0≤x_∧x_<16)∧E=curE g a e h)) 2 A A A A A (fun l' w B=>dT g a e h z 16 _ _ _ B U AE) ?_
 intro v6 p7 R8
 obtain⟨⟨x8,rfl,ae,af⟩,rfl⟩:=R8
 refine dO (l':=(boxE K #[jI d.W,jI d.H,jI d.T,jI d.R] 25::boxE J #[jI 0,jI 0,jI 0,jI 0] 25::curE g a e h::l)) A ?_
 refine dL (bS (dW ?_))
 refine bZ A A A A A A (fun h9=>?_) (fun h9=>?_)
 refine bG 1 A (aR A (cN 1 A ?_))
 refine cH A (aH (z:=jI 0) (s:=1) (cs:=(mI [-1,0,2,6,7,9223372036854775807])) A z8 A V A F A) ?_
 intro X
 refine jP (R:=(fun G E=>(∃x:Int,G=jI x∧x∈([(-1),0,2,6,7,9223372036854775807]:List Int))∧E=curE g a e h)) 3 A A A A A (fun L w M B=>iV g a e h z (.slice (some ⟨X,0,none⟩) 6 6) ([(-1),0,2,6,7,9223372036854775807]:List Int) _ _ _ B U (fun w B=>Fj (M w B) 0 A) AI) ?_
 intro ag ah a6
 obtain⟨⟨Y,rfl,ai⟩,rfl⟩:=a6
 refine dO (l':=(rowE 3 1 (.slice (some ⟨X,0,none⟩) 6 6) 6 (mI [-1,0,2,6,7,9223372036854775807])::boxE K #[jI d.W,jI d.H,jI d.T,jI d.R] 25::boxE J #[jI 0,jI 0,jI 0,jI 0] 25::curE g a e h::l)) A ?_
 refine aN A (fY 0 A A A) (gB (i:=1) (cs':=#[jI Y,jI d.H,jI d.T,jI d.R]) A A A A A A A A A A A ?_)
 refine cP (cG ?_)
 exact fV (Dev.mk Y d.H d.T d.R) trivial (bV A) (.cons _ (.refl _))
 refine bG 1 A (aV A (dW ?_))
 refine bZ A A A A A A (fun a7=>?_) (fun a7=>?_)
 refine bG 1 A (aR A (cN 1 A ?_))
 refine cH A (aH (z:=jI 0) (s:=1) (cs:=(mI [-1,0,2,6,7,9223372036854775807])) A z8 A V A F A) ?_
 intro Z
 refine jP (R:=(fun G E=>(∃x:Int,G=jI x∧x∈([(-1),0,2,6,7,9223372036854775807]:List Int))∧E=curE g a e h)) 3 A A A A A (fun L w M B=>iV g a e h z (.slice (some ⟨Z,0,none⟩) 6 6) ([(-1),0,2,6,7,9223372036854775807]:List Int) _ _ _ B U (fun w B=>Fj (M w B) 0 A) AI) ?_
 intro aj ak a8
 obtain⟨⟨a0,rfl,al⟩,rfl⟩:=a8
 refine dO (l':=(rowE 3 1 (.slice (some ⟨Z,0,none⟩) 6 6) 6 (mI [-1,0,2,6,7,9223372036854775807])::boxE K #[jI d.W,jI d.H,jI d.T,jI d.R] 25::boxE J #[jI 0,jI 0,jI 0,jI 0] 25::curE g a e h::l)) A ?_
 refine aN A (fY 1 A A A) (gB (i:=1) (cs':=#[jI d.W,jI a0,jI d.T,jI d.R]) A A A A A A A A A A A ?_)
 refine cP (cG ?_)
 exact fV (Dev.mk d.W a0 d.T d.R) trivial (bV A) (.cons _ (.refl _))
 refine bG 1 A (aV A (dW ?_))
 refine bZ A A A A A A (fun a9=>?_) (fun a9=>?_)
 refine bG 1 A (aR A (cN 1 A ?_))
 refine cH A (aH (z:=jI 0) (s:=1) (cs:=(mI [-1,0,5])) A z8 A V A F A) ?_
 intro a1
 refine jP (R:=(fun G E=>(∃x:Int,G=jI x∧x∈([(-1),0,5]:List Int))∧E=curE g a e h)) 3 A A A A A (fun L w M B=>iV g a e h z (.slice (some ⟨a1,0,none⟩) 3 3) ([(-1),0,5]:List Int) _ _ _ B U (fun w B=>Fj (M w B) 0 A) AI) ?_
 intro am an aa
 obtain⟨⟨a2,rfl,ao⟩,rfl⟩:=aa
 refine dO (l':=(rowE 3 1 (.slice (some ⟨a1,0,none⟩) 3 3) 3 (mI [-1,0,5])::boxE K #[jI d.W,jI d.H,jI d.T,jI d.R] 25::boxE J #[jI 0,jI 0,jI 0,jI 0] 25::curE g a e h::l)) A ?_
 refine aN A (fY 2 A A A) (gB (i:=1) (cs':=#[jI d.W,jI d.H,jI a2,jI d.R]) A A A A A A A A A A A ?_)
 refine cP (cG ?_)
 exact fV (Dev.mk d.W d.H a2 d.R) trivial (bV A) (.cons _ (.refl _))
 refine bG 1 A (aV A (dW ?_))
 refine bZ A A A A A A (fun ab=>?_) (fun ab=>?_)
 refine bG 1 A (aR A (cN 1 A ?_))
 refine cH A (aH (z:=jI 0) (s:=1) (cs:=(mI [-2,0,5, -9223372036854775808])) A z8 A V A F A) ?_
 intro a3
 refine jP (R:=(fun G E=>(∃x:Int,G=jI x∧x∈([(-2),0,5,(-9223372036854775808)]:List Int))∧E=curE g a e h)) 3 A A A A A (fun L w M B=>iV g a e h z (.slice (some ⟨a3,0,none⟩) 4 4) ([(-2),0,5,(-9223372036854775808)]:List Int) _ _ _ B U (fun w B=>Fj (M w B) 0 A) AI) ?_
 intro ap aq ac
 obtain⟨⟨a4,rfl,ar⟩,rfl⟩:=ac
 refine dO (l':=(rowE 3 1 (.slice (some ⟨a3,0,none⟩) 4 4) 4 (mI [-2,0,5, -9223372036854775808])::boxE K #[jI d.W,jI d.H,jI d.T,jI d.R] 25::boxE J #[jI 0,jI 0,jI 0,jI 0] 25::curE g a e h::l)) A ?_
 refine aN A (fY 3 A A A) (gB (i:=1) (cs':=#[jI d.W,jI d.H,jI d.T,jI a4]) A A A A A A A A A A A ?_)
 refine cP (cG ?_)
 exact fV (Dev.mk d.W d.H d.T a4) trivial (bV A) (.cons _ (.refl _))
 refine bG 1 A (jQ A (cG ?_))
 exact fV (Dev.mk d.W d.H d.T d.R) trivial (bV A) (.refl _)
 intro D ad
 refine dW (aN A (aP (cs:=[jI D.W,jI D.H,jI D.T,jI D.R]) A A A A A (aM 0 A 0 A)) ?_)
 refine cA (cs':=#[jI D.W,jI D.H,jI D.T,jI D.R]) (i:=1) (off:=0) (us:=[jI D.W,jI D.H,jI D.T,jI D.R]) A A A A A A A (aC A (aC A (aC A (aC A bH)))) A A A (dL ?_)
 exact cW (fU (rs:=[.cell 2 25]) (vs:=[.agg #[jI D.W,jI D.H,jI D.T,jI D.R]]) A ⟨⟨J,0,[jI D.W,jI D.H,jI D.T,jI D.R],A,A,F,F,aM 1 A 0 A⟩,trivial⟩ A (fun w B=>⟨_,curE g a e h,A,⟨⟨D,A⟩,A⟩,B.sub (pR 2 A)⟩))
theorem yK (g:Nat) (a:Option Addr) (B D:Nat) (z:List Int) (w0:World) (l:List HP) (w:World) (a6:Mem w0 (curE g a B D::l) w) (hb:BRow .u8 w0 a B D z) :
   Calls Tryz.prog 45 #[.pointer (some ⟨g,0,none⟩)] w (fun e_ w_=>∃v_ G,e_=.returned v_∧(fun X G=>∃(d:Dev) (zs:List Int) (cs:List Cn) (zv cv:Value) (ps:List HP),X=.tuple #[.agg #[.int .i64 d.W,.int .i64 d.H,.int .i64 d.T,.int .i64 d.R],zv,cv]∧G=bigE [curE g a B D,rI9 3 zv zs,rS9 44 4 cv cs cnC,bigE ps]∧(∀w,(bigE ps).holds w→KsR w cs)∧zs.length≤64∧(∀c∈cs,CnB c)∧cs.length≤200) v_ G∧Mem w0 (G::l) w_):=by
 refine gE (N:=62) (args:=[pI g]) Tryz.func45 A A a6 (dW ?_)
 refine cU A (bY (z:=.agg #[jI 0,jI 0,jI 0,jI 0]) A A) ?_
 intro Y
 refine bG 2 A (aG (cN 1 A ?_))
 refine cR (R:=(fun X G=>(∃J:Int,X=jI J∧0≤J∧J<3)∧G=curE g a B D)) 1 A A A A A (fun l' w hm=>dT g a B D z 3 _ _ _ hm hb AE) ?_
 intro v2 p3 R4
 obtain⟨⟨E,rfl,ae,af⟩,rfl⟩:=R4
 refine dO (l':=(boxE Y #[jI 0,jI 0,jI 0,jI 0] 25::curE g a B D::l)) A ?_
 refine aN A (eY A A A) (aN A (dG (cs:=#[jI 3,jI (3+E),jI 1,jI (-1)]) A A A) ?_)
 refine cU A (bY (z:=.agg #[jI 0,jI 0,jI 0,jI 0]) A A) ?_
 intro b5
 refine cA (cs':=#[jI 3,jI (3+E),jI 1,jI (-1)]) (i:=0) (off:=0) (us:=[jI 3,jI (3+E),jI 1,jI (-1)]) A A A A A A A (aC A (aC A (aC A (aC A bH)))) A A A (dL (dW ?_))
 refine cH A (bU (s:=1) A z8 A) ?_
 intro g6
 refine bG 1 A (dW ?_)
 refine cH A (bU (s:=4) A Tryz.underlying27 A) ?_
 intro g7
 refine bG 1 A (aG (cF 1 A (bS ?_)))
 refine fK _ hF ?_
 refine mS (α:=Nat) (β:=Value×List Int) (γ:=Value×List Cn) (δ:=List HP) [0,2,3,4,5] A (fun y Z U ps=>(bigE ps::rS9 44 4 U.1 U.2 cnC::rI9 3 Z.1 Z.2::boxE b5 #[jI 3,jI (3+E),jI 1,jI (-1)] 25::boxE Y #[jI 0,jI 0,jI 0,jI 0] 25::curE g a B D::l)) (fun y Z U ps=>[(6,Z.1),(7,U.1),(8,jI (y:Int))]) (fun y Z U ps=>y≤5∧Z.2.length≤2*y∧U.2.length≤4*y∧(∀c∈U.2,CnB c)∧∀w,(bigE ps).holds w→KsR w U.2) (fun y Z U ps=>5-y) 0 (_,[]) (_,[]) [] ⟨Nat.zero_le _,Nat.zero_le _,Nat.zero_le _,(fun c hc=>by cases hc),fun w _=>KsR.nil w⟩ (bV A) (.refl _) ?_
 intro y Z U ps a7
 obtain⟨hy,ag,ah,a0,a1⟩:=a7
 refine aG (aG (cN 1 A (aN A (fY 1 A A A) (aN A (bJ A A A (bA 3 A A)) ?_))))
 refine aW A A A A A A (fun h9=>?_) (fun h9=>?_)
 refine dL (aR A (eC (jR (aG (cN 2 A (aN A (fY 0 A A A) (aN A (bJ A A A (bA 3 A A)) (aN A (eZ A A A AE) ?_))))))))
 refine aS 1 A (aN A (fY 0 A A A) (aN A (bJ A A A (bA 3 A A)) (aN A (eZ A A A AE) (aN A (eY A A A) ?_))))
 refine cH A (aH (z:=jI 0) (s:=1) (cs:=(mI [(y:Int)*3,((y:Int)*3)+2])) A z8 A V A F A) ?_
 intro a2
 refine bT (i:=3) (z:=jI 0) (bytes:=8) A A A A z8 F A A A A (aB 0 A) (bI _) AD (bK Z.2 ([(y:Int)*3,((y:Int)*3)+2])) (cB Z.2 ([(y:Int)*3,((y:Int)*3)+2])) (fun _=>A) ?_
 intro K
 refine aS 1 A (cP (bB (aG (bP (aS 2 A (aN A (eZ A A A AE) (aN A (dG (cs:=#[jI (2*(y:Int)),jI 0]) A A A) (aS 1 A (aN A (eZ A A A AE) (aN A (eY A A A) (aN A (dG (cs:=#[jI ((2*(y:Int))+1),jI 0]) A A A) ?_)))))))))))
 refine cH A (aH (z:=.agg #[jI 0,jI 0]) (s:=2) (cs:=(mI [(2*(y:Int))+1,0])) A Tryz.underlying42 A V A F A) ?_
 intro h
 refine aN A (dG (cs:=#[jI (y:Int),jI (2*(y:Int)),jI 0,.slice (some ⟨h,0,none⟩) 1 1]) A A A) (cU A (bY (z:=.agg #[jI 0,jI 0,jI 0,.slice none 0 0]) A A) ?_)
 intro a3
 refine cA (cs':=#[jI (y:Int),jI (2*(y:Int)),jI 0,.slice (some ⟨h,0,none⟩) 1 1]) (i:=0) (off:=0) (us:=[jI (y:Int),jI (2*(y:Int)),jI 0,.slice (some ⟨h,0,none⟩) 1 1]) A A A A A A A (aC A (aC A (aC A (aC A bH)))) A A A (dL (aG (aG (cN 1 A ?_))))
 refine cR (R:=(fun X G=>(∃J:Int,X=jI J∧0≤J∧J<4)∧G=curE g a B D)) 8 A A A A A (fun l' w hm=>dT g a B D z 4 _ _ _ hm hb AE) ?_
 intro ai aj a8
 obtain⟨⟨ak,rfl,ac,ad⟩,rfl⟩:=a8
 refine dO (l':=(boxE a3 #[jI (y:Int),jI (2*(y:Int)),jI 0,.slice (some ⟨h,0,none⟩) 1 1] 44::rowE 41 2 (.slice (some ⟨h,0,none⟩) 1 1) 1 (mI [(2*(y:Int))+1,0])::rowE 3 1 (.slice (some ⟨a2,0,none⟩) 2 2) 2 (mI [(y:Int)*3,((y:Int)*3)+2])::bigE ps::rS9 44 4 U.1 U.2 cnC::rowE 3 1 K ((Z.2++([(y:Int)*3,((y:Int)*3)+2])).length) (mI (Z.2++([(y:Int)*3,((y:Int)*3)+2])))::boxE b5 #[jI 3,jI (3+E),jI 1,jI (-1)] 25::boxE Y #[jI 0,jI 0,jI 0,jI 0] 25::curE g a B D::l)) A ?_
 refine bG 1 A (bS ?_)
 have a4:CnB (Cn.mk (y:Int) (2*(y:Int)) 0 (.slice (some ⟨h,0,none⟩) 1 1) [Pn.mk (2*(y:Int)+1) 0]):=Ev (q:=Pn.mk (2*(y:Int)+1) 0) AI AI rfl AI
 refine iG (α:=Int) (β:=Value×List Cn) [0,2,3,4,5,6,8,9,20] A (fun k W=>(boxE a3 #[jI (y:Int),jI (2*(y:Int)),jI 0,.slice (some ⟨h,0,none⟩) 1 1] 44::rowE 41 2 (.slice (some ⟨h,0,none⟩) 1 1) 1 (mI [(2*(y:Int))+1,0])::rowE 3 1 (.slice (some ⟨a2,0,none⟩) 2 2) 2 (mI [(y:Int)*3,((y:Int)*3)+2])::bigE ps::rS9 44 4 W.1 W.2 cnC::rowE 3 1 K ((Z.2++([(y:Int)*3,((y:Int)*3)+2])).length) (mI (Z.2++([(y:Int)*3,((y:Int)*3)+2])))::boxE b5 #[jI 3,jI (3+E),jI 1,jI (-1)] 25::boxE Y #[jI 0,jI 0,jI 0,jI 0] 25::curE g a B D::l)) (fun k W=>[(7,W.1),(10,jI k)]) (fun k W=>(0≤k∧k≤3)∧(W.2.length:Int)+k≤U.2.length+3∧∀c∈W.2,c∈U.2∨c=(Cn.mk (y:Int) (2*(y:Int)) 0 (.slice (some ⟨h,0,none⟩) 1 1) [Pn.mk (2*(y:Int)+1) 0])) (fun k W=>k.toNat) _ U ⟨O,O,fun c hc=>.inl hc⟩ (bV A) (.refl _) ?_
 intro k W a5
 obtain⟨⟨al,am⟩,an,M⟩:=a5
 refine aG (aG (cN 1 A ?_))
 refine fJ A A A A A A (fun a9=>?_) (fun a9=>?_)
 refine(cP (bB (aR A (gP (bB (aG (bS (bP (aS 1 A (aN A (aP (cs:=[jI (y:Int),jI (2*(y:Int)),jI 0,.slice (some ⟨h,0,none⟩) 1 1]) A A A A A (aM 0 A 0 A)) ?_))))))))))
 refine cH A (aH (z:=.agg #[jI 0,jI 0,jI 0,.slice none 0 0]) (s:=4) (cs:=[jI (y:Int),jI (2*(y:Int)),jI 0,.slice (some ⟨h,0,none⟩) 1 1]) A Tryz.underlying27 A V A F A) ?_
 intro ao
 refine bT (i:=5) (z:=.agg #[jI 0,jI 0,jI 0,.slice none 0 0]) (bytes:=48) A A A A Tryz.underlying27 F A A A A (aB 0 A) AK AC (bK W.2 [(Cn.mk (y:Int) (2*(y:Int)) 0 (.slice (some ⟨h,0,none⟩) 1 1) [Pn.mk (2*(y:Int)+1) 0])]) (dP cnC W.2 (Cn.mk (y:Int) (2*(y:Int)) 0 (.slice (some ⟨h,0,none⟩) 1 1) [Pn.mk (2*(y:Int)+1) 0]) _ A) (fun _=>A) ?_
 intro aa
 refine eS 1 A (eB (cN 1 A (aN A (nK A A A) (eS 1 A ?_))))
 exact bO (k-1) (aa,W.2++[(Cn.mk (y:Int) (2*(y:Int)) 0 (.slice (some ⟨h,0,none⟩) 1 1) [Pn.mk (2*(y:Int)+1) 0])]) ⟨O,by show((List.length (_++[_]):Nat):Int)+_≤_;rw[length_append,length_singleton];omega,fun c hc=>(List.mem_append.1 hc).elim (M c) (fun e=>.inr (List.mem_singleton.1 e))⟩ O (bV rfl) (.cons _ (.refl _))
 refine dL (aV A ?_)
 refine bW (fM ?_)
 refine aO (bB (bP (aS 1 A (aN A (aP (cs:=[jI (y:Int),jI (2*(y:Int)),jI 0,.slice (some ⟨h,0,none⟩) 1 1]) A A A A A (aM 0 A 0 A)) ?_))))
 refine cH A (aH (z:=.agg #[jI 0,jI 0,jI 0,.slice none 0 0]) (s:=4) (cs:=[jI (y:Int),jI (2*(y:Int)),jI 0,.slice (some ⟨h,0,none⟩) 1 1]) A Tryz.underlying27 A V A F A) ?_
 intro ap
 refine bT (i:=5) (z:=.agg #[jI 0,jI 0,jI 0,.slice none 0 0]) (bytes:=48) A A A A Tryz.underlying27 F A A A A (aB 0 A) AK AC (bK W.2 [(Cn.mk (y:Int) (2*(y:Int)) 0 (.slice (some ⟨h,0,none⟩) 1 1) [Pn.mk (2*(y:Int)+1) 0])]) (dP cnC W.2 (Cn.mk (y:Int) (2*(y:Int)) 0 (.slice (some ⟨h,0,none⟩) 1 1) [Pn.mk (2*(y:Int)+1) 0]) _ A) (fun _=>A) ?_
 intro ab
 refine eS 1 A (eB (cN 1 A (aN A (eY A A A) (eS 1 A ?_))))
 refine bN 10 [9,8,7,6,5,2,4] A A V ?_
 refine dN 2 A ?_
 exact dH (y+1) (K,Z.2++([(y:Int)*3,((y:Int)*3)+2])) (ab,W.2++[(Cn.mk (y:Int) (2*(y:Int)) 0 (.slice (some ⟨h,0,none⟩) 1 1) [Pn.mk (2*(y:Int)+1) 0])]) [bigE ps,rowE 41 2 (.slice (some ⟨h,0,none⟩) 1 1) 1 (mI [(2*(y:Int))+1,0])] ⟨O,by show List.length (_++[_,_])≤_;rw[length_append];show _+2≤_;omega,by show List.length (_++[_])≤_;rw[length_append,length_singleton];omega,Gi a0 a4 M,fun w hw=>Fs (a1 w (bF hw eG)) (cI (bF hw (fW eG))) M⟩ O (bV rfl) (.refl _)
 refine dL (aV A ?_)
 refine bW (fM ?_)
 refine aO (bB (dW (aN A (aP (cs:=[jI 3,jI (3+E),jI 1,jI (-1)]) A A A A A (aM 3 A 0 A)) (aS 2 A ?_))))
 refine cA (cs':=#[jI 3,jI (3+E),jI 1,jI (-1)]) (i:=4) (off:=0) (us:=[jI 3,jI (3+E),jI 1,jI (-1)]) A A A A A A A (aC A (aC A (aC A (aC A bH)))) A A A (bG 2 A ?_)
 refine cW (bN 6 [4,3,0,1,2,5] A A V ?_)
 refine dN 4 A ?_
 exact fU (rs:=[.cell 2 25,.tmp 3,.tmp 4]) (vs:=[.agg #[jI 3,jI (3+E),jI 1,jI (-1)],Z.1,U.1]) A ⟨⟨Y,0,[jI 3,jI (3+E),jI 1,jI (-1)],A,A,F,F,aM 2 A 0 A⟩,A,A,trivial⟩ A (fun w hm=>⟨_,bigE [curE g a B D,rI9 3 Z.1 Z.2,rS9 44 4 U.1 U.2 cnC,bigE ps],A,⟨Dev.mk 3 (3+E) 1 (-1),Z.2,U.2,Z.1,U.1,ps,A,A,a1,O,a0,O⟩,hm.sub (.cons_cons _ (pR 2 A))⟩)
open Go.RowKit
theorem Iu {B:Nat}{cs:List Cn}(h:CnIn B cs) (K:CoP cs):∀c∈cs,CnB c:=fun c E=>by
  obtain⟨⟨-,U,X⟩, -,M⟩:=h c E
  obtain⟨i,G,e⟩:=List.getElem_of_mem E
  have J:=K.2 i G
  rw[getD_eq_getElem?_getD,List.getElem?_eq_getElem G,Option.getD_some,e] at J
  exact⟨O,O,J,fun k D=>by
    have:=M _ (eN (d:=pn0) D)
    omega⟩
theorem zH (n:Ln) (B:List Bk) (v:Value) (w:World) (hr:RdsLn w n) (a0:LnOk n) (E:RdsBk w v B) (a7:∀k,k<B.length→(B.getD k bk0).es.length≤100) :
   Calls Tryz.prog 98 #[.agg #[.int .i64 n.ins,n.sv,n.lv,n.ov],v] w (Ret w (fun u_ G=>∃(ps:List HP) (cs:List Cn),G=[rS9 44 4 u_ cs cnC,bigE ps]∧(∀w,(bigE ps).holds w→KsR w cs)∧CnIn B.length cs∧cs.length≤2*B.length∧CnM (kSm B B.length) cs)):=by
 have bj:=vV hr.ou
 have bk:=hr.sq.small
 have bl:=hr.lt.small
 have bf:n.cnt=1+n.ins+n.ss.length+n.ls.length:=rfl
 have bg:n.fst=1+n.ins+n.ss.length:=rfl
 obtain⟨⟨bm,bn⟩,s2,s3,s4⟩:=a0.sz
 have bh:=vV E.row
 refine aY (N:=106) (args:=[.agg #[jI n.ins,n.sv,n.lv,n.ov],v]) Tryz.func98 A A (dW ?_)
 refine cU A (cE A A) ?_
 intro b1
 refine bG 1 A (dW ?_)
 refine cH A (bU (s:=4) A Tryz.underlying27 A) ?_
 intro g2
 refine bG 1 A (kE (aN A (aP (cs:=[jI n.ins,n.sv,n.lv,n.ov]) A A A A A (aM 1 A 0 A)) (aS 1 A ?_)))
 refine fF A A A (aF A A (fun w K=>Dm n B v w (hr.below K.bel) a0 (E.below K.bel) a7)) ?_
 intro v3 p4 R5
 obtain⟨x5,rfl,rfl,k5⟩:=R5
 refine aS 1 A (bD (fun h6=>?_) (fun h6=>?_))
 refine dL (aR A (cF 2 A ?_))
 refine cW (cK ?_)
 refine bN 2 [1,0] A A V ?_
 refine fH _ hF ?_
 refine bN 3 [2,0,1] A A V ?_
 exact bM (post:=[rowE 44 4 (.slice (some ⟨g2,0,none⟩) 0 0) (([]:List Cn).length) (([]:List Cn).flatMap cnC),bigE []]) A A (eA [0,0] A) ⟨_,[],A,fun w _=>KsR.nil w,CnIn.nil _,Nat.zero_le _,CnM.nil _⟩
 obtain⟨bi,M⟩:=k5 (by simpa using h6)
 refine dL (aV A (eC (dW ?_)))
 refine cH A (bU (s:=1) A Tryz.underlying57 A) ?_
 intro g7
 refine bG 1 A (aG (cF 1 A (bS ?_)))
 refine fK _ hF ?_
 refine mS (α:=Nat) (β:=Value) (γ:=List CRow) (δ:=List HP) [0,1,2,4,5,18] A (fun b Z rs bp=>[bigE bp,rS9 26 1 Z rs crowC,rowE 44 4 (.slice (some ⟨g2,0,none⟩) 0 0) 0 ([]),boxE b1 #[jI n.ins,n.sv,n.lv,n.ov] 108]) (fun b Z rs bp=>[(6,Z),(7,jI (b:Int))]) (fun b Z rs bp=>b≤B.length∧rs.length=b∧(∀q,q<b→(rs.getD q crow0).xs=pinN n (B.getD q bk0))∧∀w,(bigE bp).holds w→RdsAll w rs) (fun b Z rs bp=>B.length-b) 0 _ [] _ ⟨Nat.zero_le _,A,fun q hq=>absurd hq O,fun w _=>RdsAll.nil w⟩ (bV A) (cZ A) ?_
 intro b Z rs bp b3
 obtain⟨hb,b4,a8,a5⟩:=b3
 refine aG (aG (cN 2 A (aN A (eV A A A (aE E.row)) ?_)))
 refine aW A A A A A A (fun h9=>?_) (fun h9=>?_)
 refine dL (aR A (eC (jR ?_)))
 refine eI A 8 [0,1,2,3,4,5,6,7] (List.take 8 _) (List.drop 8 _) [[],[],[],[],[2,3],[4],[1,5],[6]] [27,28,29,30,31,32,33,34] (fun i_ ac X G=>match i_ with|0=>X=Z∧G=[]|1=>X=.agg #[jI n.ins,n.sv,n.lv,n.ov]∧G=[]|2=>X=v∧G=[]|3=>X=jI (b:Int)∧G=[]|4=>X=elP v ((b:Int).toNat*3)∧G=[]|5=>X=.agg #[jI ((B.getD b bk0).kd),jI ((B.getD b bk0).it),(B.getD b bk0).bv]∧G=[]|6=>(fun v' post=>post=[rI9 3 v' ((pinN n (B.getD b bk0)))]) X G|7=>IsRow 26 1 1 ([(gV9 ac 0)]) X G|_=>True) (take_append_drop 8 _).symm F F A A ?_ ?_
 refine⟨?_,?_,?_,?_,?_,?_,?_,?_,trivial⟩
 intro vf J D
 exact fG A (aD [6] A) (aK (aU A))
 intro vf J D
 exact eH A (aD [2] A) (aK (aP (cs:=[jI n.ins,n.sv,n.lv,n.ov]) A A A A A (aM 3 A 0 A)))
 intro vf J D
 exact fG A (aD [1] A) (aK (aU A))
 intro vf J D
 exact fG A (aD [7] A) (aK (aU A))
 intro vf J D
 have e2:=D 2 V
 have e3:=D 3 V
 exact eH A (aX 29 e2.1 (aX 30 e3.1 (aA _))) (aK (cV 3 A A A A (aE E.row)))
 intro vf J D
 have e4:=D 4 V
 exact eH A (aX 31 e4.1 (aA _)) (aK (cO (us:=[jI ((B.getD b bk0).kd),jI ((B.getD b bk0).it),(B.getD b bk0).bv]) A A A A (aE E.row) O A (dQ bkC 3 (fun _=>A) B bk0 (show b<_ by omega) A)))
 intro vf J D
 have e1:=D 1 V
 have e5:=D 5 V
 exact eH A (aX 28 e1.1 (aX 32 e5.1 (aA _))) (aF A A (fun w K=>zF n (B.getD b bk0) w (hr.below K.bel) a0 ((E.at (k:=b) O).below K.bel) (a7 b O)))
 intro vf J D
 obtain⟨a1,Y⟩:=dU (vf 6)
 obtain⟨b5,a3⟩:=dU (J 6)
 have a4:=D 6 V
 rw[Y,a3] at a4
 subst a4
 refine Or.inl ⟨A,?_⟩
 exact bQ (aX 33 Y (aA _)) (by simp only[a3,Y,fS]<;>rfl) (dM (jC A Tryz.underlying57 F A (fun w K=>(aB 0 A w K).one)) (fun X G h=>by show IsRow 26 1 1 ([(vf 6)]) X G;rw[Y];exact h))
 intro vf J D
 have e0:=D 0 V
 obtain⟨a1,Y⟩:=dU (vf 6)
 obtain⟨b5,a3⟩:=dU (J 6)
 have a4:=D 6 V
 rw[Y,a3] at a4
 subst a4
 have e7:IsRow 26 1 1 ([(vf 6)]) (vf 7) (J 7):=D 7 V
 rw[Y] at e7
 obtain⟨bo,ad,b6⟩:=e7
 have q0:=D 0 V
 have q1:=D 1 V
 have q2:=D 2 V
 have q3:=D 3 V
 have q4:=D 4 V
 have q5:=D 5 V
 refine cL (bE [24,18,7,6,5,4,2,1,0] _ (aX 27 e0.1 (aX 34 ad (aA _))) A) (by simp only[a3,Y,b6,ad,q0.2,q1.2,q2.2,q3.2,q4.2,q5.2,fS]<;>rfl) ?_
 simp only[drop_succ_cons,drop_zero]
 refine eE (i:=0) A (fun ae=>?_)
 refine bT (i:=3) (z:=.slice none 0 0) (bytes:=24) A A A A Tryz.underlying57 F A A A A (aB 1 A) (aC ae bH) AC (bK rs [(CRow.mk a1 (pinN n (B.getD b bk0)))]) (dP crowC rs (CRow.mk a1 (pinN n (B.getD b bk0))) _ A) (fun _=>A) ?_
 intro b7
 refine eS 1 A (eB (cN 1 A (aN A (eY A A A) (eS 1 A ?_))))
 refine bN 6 [5,4,3,0,2] A A V ?_
 refine dN 2 A ?_
 exact dH (b+1) b7 (rs++[(CRow.mk a1 (pinN n (B.getD b bk0)))]) [bigE bp,rowE 3 1 a1 ((pinN n (B.getD b bk0)).length) (mI (pinN n (B.getD b bk0)))] ⟨O,by rw[length_append,length_singleton];omega,fun q hq=>by by_cases e:q<rs.length;(rw[gM e];exact a8 q O);(obtain rfl:q=rs.length:=by omega);(rw[hC (Nat.le_refl _),Nat.sub_self,b4];rfl),fun w hw=>RdsAll.cons (u:=CRow.mk a1 (pinN n (B.getD b bk0))) (a5 w (bF hw eG)) (cI (bF hw (fW eG))) (fun q hq=>(List.mem_append.1 hq).elim .inr (fun h=>.inl (List.mem_singleton.1 h)))⟩ O (bV rfl) (cZ rfl)
 refine dL (aV A ?_)
 refine bW (fM ?_)
 refine aO (bB (aG (cF 1 A (bS ?_))))
 refine fK _ hF ?_
 refine fP (α:=Nat) (β:=Value×List Cn) (γ:=List HP) [0,1,2,4,6,18,24] A (fun c U ps=>[bigE ps,bigE bp,rS9 26 1 Z rs crowC,rS9 44 4 U.1 U.2 cnC,boxE b1 #[jI n.ins,n.sv,n.lv,n.ov] 108]) (fun c U ps=>[(5,U.1),(8,jI (c:Int))]) (fun c U ps=>c≤B.length∧U.2.length≤2*c∧CnIn B.length U.2∧CnM (kSm B B.length) U.2∧∀w,(bigE ps).holds w→KsR w U.2) (fun c U ps=>B.length-c) 0 (_,[]) _ ⟨Nat.zero_le _,Nat.zero_le _,CnIn.nil _,CnM.nil _,fun w _=>KsR.nil w⟩ (bV A) (cZ A) ?_
 intro c U ps af
 obtain⟨hc,bq,ag,ah,ai⟩:=af
 refine aG (aG (cN 2 A (aN A (eV A A A (aE E.row)) ?_)))
 refine aW A A A A A A (fun b8=>?_) (fun b8=>?_)
 refine dL (aR A (eC (jR (aG ?_))))
 refine eI A 6 [0,1,2,3,4,5] (List.take 6 _) (List.drop 6 _) [[],[],[],[1,2],[3],[0,4]] [42,43,44,45,46,47] (fun i_ ac X G=>match i_ with|0=>X=.agg #[jI n.ins,n.sv,n.lv,n.ov]∧G=[]|1=>X=v∧G=[]|2=>X=jI (c:Int)∧G=[]|3=>X=elP v ((c:Int).toNat*3)∧G=[]|4=>X=.agg #[jI ((B.getD c bk0).kd),jI ((B.getD c bk0).it),(B.getD c bk0).bv]∧G=[]|5=>(fun v' post=>post=[rI9 3 v' ((outNd n (B.getD c bk0)))]) X G|_=>True) (take_append_drop 6 _).symm F F A A ?_ ?_
 refine⟨?_,?_,?_,?_,?_,?_,trivial⟩
 intro vf J D
 exact eH A (aD [2] A) (aK (aP (cs:=[jI n.ins,n.sv,n.lv,n.ov]) A A A A A (aM 4 A 0 A)))
 intro vf J D
 exact fG A (aD [1] A) (aK (aU A))
 intro vf J D
 exact fG A (aD [8] A) (aK (aU A))
 intro vf J D
 have e1:=D 1 V
 have e2:=D 2 V
 exact eH A (aX 43 e1.1 (aX 44 e2.1 (aA _))) (aK (cV 3 A A A A (aE E.row)))
 intro vf J D
 have e3:=D 3 V
 exact eH A (aX 45 e3.1 (aA _)) (aK (cO (us:=[jI ((B.getD c bk0).kd),jI ((B.getD c bk0).it),(B.getD c bk0).bv]) A A A A (aE E.row) O A (dQ bkC 3 (fun _=>A) B bk0 (show c<_ by omega) A)))
 intro vf J D
 have e0:=D 0 V
 have e4:=D 4 V
 exact eH A (aX 42 e0.1 (aX 46 e4.1 (aA _))) (aF A A (fun w K=>zG n (B.getD c bk0) w (hr.below K.bel) a0 ((E.at (k:=c) O).below K.bel) (a7 c O)))
 intro vf J D
 obtain⟨a2,a9⟩:=dU (vf 5)
 obtain⟨br,aj⟩:=dU (J 5)
 have ak:=D 5 V
 rw[a9,aj] at ak
 subst ak
 have q0:=D 0 V
 have q1:=D 1 V
 have q2:=D 2 V
 have q3:=D 3 V
 have q4:=D 4 V
 refine cL (bE [39,24,18,8,6,5,4,2,1,0] _ (aX 47 a9 (aA _)) A) (by simp only[aj,a9,q0.2,q1.2,q2.2,q3.2,q4.2,fS]<;>rfl) ?_
 simp only[drop_succ_cons,drop_zero]
 refine bG 1 A (dW ?_)
 have a6:=yD (M c O)
 refine bG 1 A (bS ?_)
 refine fP (α:=Nat) (β:=Value×List Cn) (γ:=List HP) [0,1,2,4,6,8,9,18,24,39] A (fun p W qs=>[rowE 3 1 a2 ((outNd n (B.getD c bk0)).length) (mI (outNd n (B.getD c bk0))),bigE qs,bigE bp,rS9 26 1 Z rs crowC,rS9 44 4 W.1 W.2 cnC,boxE b1 #[jI n.ins,n.sv,n.lv,n.ov] 108]) (fun p W qs=>[(5,W.1),(10,jI (p:Int))]) (fun p W qs=>p≤(outNd n (B.getD c bk0)).length∧W.2.length≤2*c+p∧CnIn B.length W.2∧CnM (kSm B B.length) W.2∧∀w,(bigE qs).holds w→KsR w W.2) (fun p W qs=>(outNd n (B.getD c bk0)).length-p) 0 U ps ⟨Nat.zero_le _,O,ag,ah,ai⟩ (bV A) (cZ A) ?_
 intro p W qs al
 obtain⟨hp,bt,am,an,ao⟩:=al
 refine aG (aG (cN 2 A (aN A (eV A A A (aB 0 A)) ?_)))
 refine aW A A A A A A (fun b9=>?_) (fun b9=>?_)
 refine dL (aR A (eC (jR (aG (cN 2 A (aN A (cV 1 A A A A (aB 0 A)) (aN A (aL (u:=jI ((outNd n (B.getD c bk0)).getD p 0)) A A A (aB 0 A) (cJ (show _<(outNd n (B.getD c bk0)).length by omega))) (aS 2 A ?_))))))))
 refine aN A (dG (cs:=#[jI (c:Int),jI (p:Int)]) A A A) (aN A (dG (cs:=#[jI ((outNd n (B.getD c bk0)).getD p 0),jI (c:Int),jI (p:Int),.slice none 0 0]) A A A) ?_)
 refine cU A (bY (z:=.agg #[jI 0,jI 0,jI 0,.slice none 0 0]) A A) ?_
 intro aa
 refine cA (cs':=#[jI ((outNd n (B.getD c bk0)).getD p 0),jI (c:Int),jI (p:Int),.slice none 0 0]) (i:=0) (off:=0) (us:=[jI ((outNd n (B.getD c bk0)).getD p 0),jI (c:Int),jI (p:Int),.slice none 0 0]) A A A A A A A (aC A (aC A (aC A (aC A bH)))) A A A (dL (aG (cF 1 A (bS ?_))))
 refine fK [rowE 41 2 (.slice none 0 0) (([]:List Pn).length) (([]:List Pn).flatMap pnC),boxE aa #[jI ((outNd n (B.getD c bk0)).getD p 0),jI (c:Int),jI (p:Int),.slice none 0 0] 44,rowE 3 1 a2 ((outNd n (B.getD c bk0)).length) (mI (outNd n (B.getD c bk0))),bigE qs,bigE bp,rS9 26 1 Z rs crowC,rS9 44 4 W.1 W.2 cnC,boxE b1 #[jI n.ins,n.sv,n.lv,n.ov] 108] (fun w K=>K.nilRow 41 2) ?_
 refine fP (α:=Nat) (β:=Value) (γ:=List Pn) [0,1,2,4,5,6,8,9,10,11,18,24,39,51] A (fun i ui xs=>[rS9 41 2 ui xs pnC,boxE aa #[jI ((outNd n (B.getD c bk0)).getD p 0),jI (c:Int),jI (p:Int),ui] 44,rowE 3 1 a2 ((outNd n (B.getD c bk0)).length) (mI (outNd n (B.getD c bk0))),bigE qs,bigE bp,rS9 26 1 Z rs crowC,rS9 44 4 W.1 W.2 cnC,boxE b1 #[jI n.ins,n.sv,n.lv,n.ov] 108]) (fun i ui xs=>[(12,jI (i:Int))]) (fun i ui xs=>i≤B.length∧xs.length≤5*i∧xs.length≤kSm B i∧PnIn B.length xs) (fun i ui xs=>B.length-i) 0 _ [] ⟨Nat.zero_le _,Nat.zero_le _,Nat.zero_le _,PnIn.nil _⟩ (bV A) (cZ A) ?_
 intro i ui xs ap
 obtain⟨hi,bu,ba,aq⟩:=ap
 refine aG (aG (cN 2 A (aN A (eV A A A (aB 5 A)) ?_)))
 refine aW A A A A A A (fun bb=>?_) (fun bb=>?_)
 refine dL (aR A (eC (jR (cF 1 A ?_))))
 refine bS ?_
 refine fP (α:=Nat) (β:=Value) (γ:=List Pn) [0,1,2,4,5,6,8,9,10,11,12,18,24,39,51,65] A (fun k uk ys=>[rS9 41 2 uk ys pnC,boxE aa #[jI ((outNd n (B.getD c bk0)).getD p 0),jI (c:Int),jI (p:Int),uk] 44,rowE 3 1 a2 ((outNd n (B.getD c bk0)).length) (mI (outNd n (B.getD c bk0))),bigE qs,bigE bp,rS9 26 1 Z rs crowC,rS9 44 4 W.1 W.2 cnC,boxE b1 #[jI n.ins,n.sv,n.lv,n.ov] 108]) (fun k uk ys=>[(13,jI (k:Int))]) (fun k uk ys=>k≤(rs.getD i crow0).xs.length∧ys.length≤5*i+k∧ys.length≤kSm B i+k∧PnIn B.length ys) (fun k uk ys=>(rs.getD i crow0).xs.length-k) 0 _ xs ⟨Nat.zero_le _,O,O,aq⟩ (bV A) (cZ A) ?_
 intro k uk ys ar
 obtain⟨hk,bw,bx,au⟩:=ar
 refine kE ?_
 have aw:=Dy a0 (M i O)
 rw[←a8 i O] at aw
 have ax:=Kb a0 (M i O)
 rw[←a8 i O] at ax
 refine aS 3 A (aN A (cV 1 A A A A (aB 5 A)) ?_)
 refine aN A (aL (u:=(rs.getD i crow0).v) A A A (aB 5 A) (dF crowC (fun r=>r.v) (fun _=>A) rs crow0 (show i<_ by omega))) (aN A (eV A A A (fun w K=>(a5 w (K.holds _ (cT (i:=4) A))).at (k:=i) O)) ?_)
 refine aW A A A A A A (fun bc=>?_) (fun bc=>?_)
 refine dL (aR A (eC (jR (aG ?_))))
 refine bL 12 [[],[],[0,1],[2],[],[3,4],[5],[],[],[7,8],[9],[6,10]] [77,78,79,80,81,82,83,84,85,86,87,88] [Z,jI (i:Int),elP Z ((i:Int).toNat*1),(rs.getD i crow0).v,jI (k:Int),elP ((rs.getD i crow0).v) ((k:Int).toNat*1),jI (((rs.getD i crow0).xs).getD k 0),a2,jI (p:Int),elP a2 ((p:Int).toNat*1),jI ((outNd n (B.getD c bk0)).getD p 0),.bool ((((rs.getD i crow0).xs).getD k 0)==((outNd n (B.getD c bk0)).getD p 0))] F A ?_ ?_
 exact⟨aJ,aJ,fL A (cV 1 A A A A (aB 5 A)) A,fL A (aL (u:=(rs.getD i crow0).v) A A A (aB 5 A) (dF crowC (fun r=>r.v) (fun _=>A) rs crow0 (show i<_ by omega))) A,aJ,fL A (cV 1 A A A A (fun w K=>(a5 w (K.holds _ (cT (i:=4) A))).at (k:=i) O)) A,fL A (aL (u:=jI (((rs.getD i crow0).xs).getD k 0)) A A A (fun w K=>(a5 w (K.holds _ (cT (i:=4) A))).at (k:=i) O) (cJ (show _<((rs.getD i crow0).xs).length by omega))) A,aJ,aJ,aJ,fL A (aL (u:=jI ((outNd n (B.getD c bk0)).getD p 0)) A A A (aB 2 A) (cJ (show _<(outNd n (B.getD c bk0)).length by omega))) A,aJ,trivial⟩
 simp only[drop_succ_cons,drop_zero]
 refine dL ?_
 refine fO A (fun ab=>?_) (fun ab=>?_)
 have ay:((rs.getD i crow0).xs).getD k 0=(outNd n (B.getD c bk0)).getD p 0:=beq_iff_eq.1 ab
 refine bP (aN A (fY 3 A A A) (aN A (bJ A A A (bA 1 A A)) (aS 2 A (aN A (dG (cs:=#[jI (i:Int),jI (k:Int)]) A A A) ?_))))
 refine cH A (aH (z:=.agg #[jI 0,jI 0]) (s:=2) (cs:=(mI [(i:Int),(k:Int)])) A Tryz.underlying42 A V A F A) ?_
 intro bz
 refine bT (i:=1) (z:=.agg #[jI 0,jI 0]) (bytes:=16) A A A A Tryz.underlying42 F A A A A (aB 0 A) (bI _) AC (bK ys [(Pn.mk (i:Int) (k:Int))]) (dP pnC ys (Pn.mk (i:Int) (k:Int)) _ A) (fun _=>A) ?_
 intro az
 refine aN A (fY 3 A A A) (eE (i:=1) A (fun b0=>?_))
 refine gB (i:=2) (cs':=#[jI ((outNd n (B.getD c bk0)).getD p 0),jI (c:Int),jI (p:Int),az]) A A A A A A b0 A A A A (cP (eB (cN 1 A (aN A (eY A A A) (eS 1 A ?_)))))
 exact aQ (k+1) az (ys++[(Pn.mk (i:Int) (k:Int))]) ⟨O,by(try rw[length_append,length_singleton]);omega,by(try rw[length_append,length_singleton]);omega,by first|assumption|exact au.app ⟨⟨O,O⟩,O,O⟩⟩ O (bV rfl) (eA [1,0,0,0,0,0,0,0] rfl)
 have ay:((rs.getD i crow0).xs).getD k 0≠(outNd n (B.getD c bk0)).getD p 0:=beq_eq_false_iff_ne.1 ab
 refine gP (eB (cN 1 A (aN A (eY A A A) (eS 1 A ?_))))
 exact aQ (k+1) uk ys ⟨O,by(try rw[length_append,length_singleton]);omega,by(try rw[length_append,length_singleton]);omega,by first|assumption|exact au.app ⟨⟨O,O⟩,O,O⟩⟩ O (bV rfl) (cZ rfl)
 refine dL (aV A ?_)
 refine bW (fM ?_)
 refine aO (eB (cN 1 A (aN A (eY A A A) (eS 1 A ?_))))
 exact aQ (i+1) uk ys ⟨O,O,by show _≤kSm B i+kW (B.getD i bk0).kd;omega,I⟩ O (bV A) (cZ A)
 refine dL (aV A ?_)
 refine bW (fM ?_)
 refine aO (bB (dW (aN A (fY 3 A A A) (aN A (bJ A A A (bA 1 A A)) (aN A (eV A A A (aB 0 A)) ?_)))))
 refine fJ A A A A A A (fun bd=>?_) (fun bd=>?_)
 refine(cP (bB (aR A (bP (aS 1 A (aN A (aP (cs:=[jI ((outNd n (B.getD c bk0)).getD p 0),jI (c:Int),jI (p:Int),ui]) A A A A A (aM 1 A 0 A)) ?_))))))
 refine cH A (aH (z:=.agg #[jI 0,jI 0,jI 0,.slice none 0 0]) (s:=4) (cs:=[jI ((outNd n (B.getD c bk0)).getD p 0),jI (c:Int),jI (p:Int),ui]) A Tryz.underlying27 A V A F A) ?_
 intro c0
 refine eE (i:=1) A (fun b2=>?_)
 refine bT (i:=7) (z:=.agg #[jI 0,jI 0,jI 0,.slice none 0 0]) (bytes:=48) A A A A Tryz.underlying27 F A A A A (aB 0 A) (aC A (aC A (aC A (aC b2 bH)))) AC (bK W.2 [(Cn.mk ((outNd n (B.getD c bk0)).getD p 0) (c:Int) (p:Int) ui xs)]) (dP cnC W.2 (Cn.mk ((outNd n (B.getD c bk0)).getD p 0) (c:Int) (p:Int) ui xs) _ A) (fun _=>A) ?_
 intro be
 refine eS 1 A (eB (cN 1 A (aN A (eY A A A) ?_)))
 have a6:=yD (M c O)
 refine eS 1 A ?_
 refine bN 9 [8,7,6,5,3,1,4] A A V ?_
 refine dN 2 A ?_
 refine bN 6 [5,4,3,2,0,1] A A V ?_
 exact aQ (p+1) (be,W.2++[(Cn.mk ((outNd n (B.getD c bk0)).getD p 0) (c:Int) (p:Int) ui xs)]) [bigE qs,rS9 41 2 ui xs pnC] ⟨O,by show List.length (_++[_])≤_;rw[length_append,length_singleton];omega,am.app ⟨O,O⟩ O aq,an.app (Nat.le_trans ba (Hz B O)),fun w hw=>(ao w (bF hw eG)).app (cI (bF hw (fW eG)))⟩ O (bV rfl) (cZ rfl)
 refine dL (jQ A (eB (cN 1 A (aN A (eY A A A) ?_))))
 have a6:=yD (M c O)
 refine eS 1 A ?_
 exact aQ (p+1) (W.1,W.2) qs ⟨O,by show(W.2).length≤_;omega,am,an,ao⟩ O (bV A) (eA [2,0,0,0,0,0] A)
 refine dL (aV A ?_)
 refine bW (fM ?_)
 refine aO (eB (cN 1 A (aN A (eY A A A) (eS 1 A ?_))))
 exact aQ (c+1) (W.1,W.2) qs ⟨O,by show(W.2).length≤_;omega,I,I,I⟩ O (bV A) (eA [1,0,0,0,0] A)
 refine dL (aV A ?_)
 refine bW (fM ?_)
 refine aO (bB (cF 2 A ?_))
 refine cW (bN 5 [4,2,1,0,3] A A V ?_)
 exact bM (post:=[rS9 44 4 U.1 U.2 cnC,bigE ps]) A A (eA [0,0] A) ⟨_,U.2,A,ai,ag,O,ah⟩
theorem vX (g:Nat) (a:Option Addr) (e B:Nat) (z:List Int) (w0:World) (l:List HP) (w:World) (c2:Mem w0 (curE g a e B::l) w) (hb:BRow .u8 w0 a e B z) :
   Calls Tryz.prog 78 #[.pointer (some ⟨g,0,none⟩)] w (fun e_ w_=>∃v_ D,e_=.returned v_∧(fun M D=>∃(d:Dev) (ps:List HP) (ks zs:List Int) (cs:List Cn) (kv cv zv:Value),M=.tuple #[.agg #[.int .i64 d.W,.int .i64 d.H,.int .i64 d.T,.int .i64 d.R],kv,cv,zv]∧D=bigE [curE g a e B,rI9 3 kv ks,rS9 44 4 cv cs cnC,rI9 3 zv zs,bigE ps]∧(∀w,(bigE ps).holds w→KsR w cs)∧ks.length≤64∧zs.length≤64∧cs.length≤132∧∀c∈cs,CnB c) v_ D∧Mem w0 (D::l) w_):=by
 refine gE (N:=112) (args:=[pI g]) Tryz.func78 A A c2 (dW ?_)
 refine cU A (bY (z:=.agg #[jI 0,jI 0,jI 0,jI 0]) A A) ?_
 intro b1
 refine bG 3 A (aG (aG (cN 1 A ?_)))
 refine cR (R:=(fun M D=>(∃b:Bool,M=.bool b)∧D=curE g a e B)) 1 A A A A A (fun l' w X=>qL X hb (2) O O) ?_
 intro v2 p3 R4
 obtain⟨⟨x4,rfl⟩,rfl⟩:=R4
 refine dO (l':=(boxE b1 #[jI 0,jI 0,jI 0,jI 0] 25::curE g a e B::l)) A ?_
 refine bD (fun h5=>?_) (fun h5=>?_)
 refine dL (aR A (aG (cN 1 A ?_)))
 refine cR (R:=(fun M D=>∃(d:Dev) (n:Ln) (ps:List HP) (bs:List Bk) (bv:Value),M=.tuple #[.agg #[jI d.W,jI d.H,jI d.T,jI d.R],n.agg,bv]∧D=bigE [curE g a e B,bigE ps]∧(∀w,(bigE ps).holds w→RdsLn w n∧RdsBk w bv bs)∧(n.sv.oneCell'=true∧n.lv.oneCell'=true∧n.ov.oneCell'=true)∧bv.oneCell'=true∧LnOk n∧BsOk bs∧bs.length≤64∧devB d=true∧Fits d (bs.map Bk.kd))) 1 A A A A A (fun l' w X=>Ap g a e B z _ _ _ X hb) ?_
 intro v6 p7 R8
 obtain⟨d,n,tp,bs,bv,rfl,rfl,aq,⟨c3,c4,c5⟩,dt,c6,c7,de,a5,b4⟩:=R8
 refine dO (l':=(boxE b1 #[jI 0,jI 0,jI 0,jI 0] 25::bigE [curE g a e B,bigE tp]::l)) A ?_
 refine kQ 2 [0,1] A A V ?_
 refine jZ (curE g a e B::bigE tp::boxE b1 #[jI 0,jI 0,jI 0,jI 0] 25::l) gN ?_
 refine aS 4 A (cU A (bY (z:=.agg #[jI 0,jI 0,jI 0,jI 0]) A A) ?_)
 intro b9
 refine cU A (bY (z:=.agg #[jI 0,.slice none 0 0,.slice none 0 0,.slice none 0 0]) A A) ?_
 intro b5
 refine cA (cs':=#[jI d.W,jI d.H,jI d.T,jI d.R]) (i:=1) (off:=0) (us:=[jI d.W,jI d.H,jI d.T,jI d.R]) A A A A A A A (aC A (aC A (aC A (aC A bH)))) A A A (cA (cs':=#[jI n.ins,n.sv,n.lv,n.ov]) (i:=0) (off:=0) (us:=[jI n.ins,n.sv,n.lv,n.ov]) A A A A A A A (aC A (aC c3 (aC c4 (aC c5 bH)))) A A A ?_)
 refine bG 1 A (aG (cN 1 A ?_))
 refine fF A A A (aF A A (fun w X=>qR bs _ w (aq w (X.holds _ (cT (i:=3) A))).2 O)) ?_
 intro aa du c8
 subst c8
 refine bG 1 A (aG ?_)
 refine jF 6 [4,2,1,0,5,3] A A V ?_
 refine gZ (l:=(rowE 3 1 aa ((bs.map Bk.kd).length) (mI (bs.map Bk.kd))::boxE b5 #[jI n.ins,n.sv,n.lv,n.ov] 108::boxE b9 #[jI d.W,jI d.H,jI d.T,jI d.R] 25::bigE tp::l)) A 10 [0,1,2,3,4,5,6,7,8,9] (List.take 10 _) (List.drop 10 _) [[],[],[],[],[2,3],[],[],[],[5,6,7],[0]] [some 28,some 29,some 30,some 31,some 32,some 33,some 34,some 35,some 36,none] (fun i_ ac v_ D=>match i_ with|0=>v_=.agg #[jI d.W,jI d.H,jI d.T,jI d.R]∧D=[]|1=>v_=aa∧D=[]|2=>v_=.agg #[jI n.ins,n.sv,n.lv,n.ov]∧D=[]|3=>v_=bv∧D=[]|4=>(fun M D=>∃(ps:List HP) (cs:List Cn),D=[rS9 44 4 M cs cnC,bigE ps]∧(∀w,(bigE ps).holds w→KsR w cs)∧CnIn bs.length cs∧cs.length≤2*bs.length∧CnM (kSm bs bs.length) cs) v_ D|5=>v_=pI g∧D=[]|6=>v_=.agg #[jI d.W,jI d.H,jI d.T,jI d.R]∧D=[]|7=>v_=aa∧D=[]|8=>(∃a6,D=[a6]∧(fun M D=>∃zs:List Int,D=bigE [curE g a e B,rI9 3 M zs]∧(lenN M=zs.length∧M.oneCell'=true)∧((Fits d (bs.map Bk.kd)∧zs.length=(bs.map Bk.kd).length∧PlP d (bs.map Bk.kd) zs)∨(¬Fits d (bs.map Bk.kd)∧zs=[]))) v_ a6)|9=>D=[boxE b1 #[jI d.W,jI d.H,jI d.T,jI d.R] 25]|_=>True) [[],[],[],[],[2,3],[],[],[],[5,6,7],[0]] [none,none,none,none,none,none,none,none,some 13,some 14] [[curE g a e B],[boxE b1 #[jI 0,jI 0,jI 0,jI 0] 25]] [0,1,2,3,4,5,6,7,8,9] 13 (take_append_drop 10 _).symm F F F A A ?_ ?_
 refine⟨?_,?_,?_,?_,?_,?_,?_,?_,?_,?_,trivial⟩
 intro vf pf G E
 refine cD [] [] A (bC (aD [6] A) z9 ?_)
 exact aK (aP (cs:=[jI d.W,jI d.H,jI d.T,jI d.R]) A A A A A (aM 2 A 0 A))
 intro vf pf G E
 refine cD [] [] A (aZ (aD [9] A) ?_)
 exact aK (aU A)
 intro vf pf G E
 refine cD [] [] A (bC (aD [7] A) z9 ?_)
 exact aK (aP (cs:=[jI n.ins,n.sv,n.lv,n.ov]) A A A A A (aM 1 A 0 A))
 intro vf pf G E
 refine cD [] [] A (aZ (aD [8] A) ?_)
 exact aK (aU A)
 intro vf pf G E
 have e2:=E 2 V
 have e3:=E 3 V
 refine cD [2,3] [2,3] A (bC (aX 30 e2.1 (aX 31 e3.1 (aA _))) z9 ?_)
 exact aF A A (fun w X=>zH n bs _ w (aq w (X.holds _ (cT (i:=3) A))).1 c6 (aq w (X.holds _ (cT (i:=3) A))).2 (fun k hk=>by have:=(c7 _ (dJ (d:=bk0) hk)).2;omega))
 intro vf pf G E
 refine cD [] [] A (aZ (aD [0] A) ?_)
 exact aK (aU A)
 intro vf pf G E
 refine cD [] [] A (bC (aD [6] A) z9 ?_)
 exact aK (aP (cs:=[jI d.W,jI d.H,jI d.T,jI d.R]) A A A A A (aM 2 A 0 A))
 intro vf pf G E
 refine cD [] [] A (aZ (aD [9] A) ?_)
 exact aK (aU A)
 intro vf pf G E
 have e5:=E 5 V
 have e6:=E 6 V
 have e7:=E 7 V
 refine Or.inl ⟨A,?_⟩
 show RunM _ _ _ (pf 13) (([5,6,7]:List Nat).flatMap pf++_) (envOf3 _ vf [5,6,7]++_) _ _
 have b6:pf 13=[curE g a e B]:=G 0 (show 0<2 by omega)
 rw[b6]
 exact eJ (aX 33 e5.1 (aX 34 e6.1 (aX 35 e7.1 (aA _)))) (by simp only[e5.2,e6.2,e7.2,fS]<;>rfl) (gX (R:=(fun M D=>∃zs:List Int,D=bigE [curE g a e B,rI9 3 M zs]∧(lenN M=zs.length∧M.oneCell'=true)∧((Fits d (bs.map Bk.kd)∧zs.length=(bs.map Bk.kd).length∧PlP d (bs.map Bk.kd) zs)∨(¬Fits d (bs.map Bk.kd)∧zs=[])))) A A (fun L w hX X=>kN g a e B z d (bs.map Bk.kd) aa _ _ _ X hb a5 (fun w ad=>by have h9:=hX w ad;exact aB 0 rfl w h9) (by rw[length_map];omega)))
 intro vf pf G E
 have e0:=E 0 V
 refine Or.inl ⟨A,?_⟩
 show RunM _ _ _ (pf 14) (([0]:List Nat).flatMap pf++_) (envOf3 _ vf [0]++_) _ _
 have b7:pf 14=[boxE b1 #[jI 0,jI 0,jI 0,jI 0] 25]:=G 1 (show 1<2 by omega)
 rw[b7]
 exact eJ (sk 2 A (aX 28 e0.1 (aA _))) (by simp only[e0.2,fS]<;>rfl) (jD (hO (us:=[jI d.W,jI d.H,jI d.T,jI d.R]) (off:=0) 0 A A A A A A (aC A (aC A (aC A (aC A bH)))) A A) (fun v_ D h=>by show D=[boxE b1 #[jI d.W,jI d.H,jI d.T,jI d.R] 25];exact h))
 intro vf pf G E
 have e1:=E 1 V
 obtain⟨ar,au⟩:=dU (vf 4)
 obtain⟨dv,b8⟩:=dU (pf 4)
 have ba:=E 4 V
 rw[au,b8] at ba
 obtain⟨cp,cs,rfl,c9,ca,cb,cc⟩:=ba
 obtain⟨dw,cd,bb⟩:=E 8 V
 obtain⟨aw,ax⟩:=dU (vf 8)
 rw[ax] at bb
 obtain⟨ae,rfl,⟨ce,cf⟩,bc⟩:=bb
 have e9:(pf 9)=[boxE b1 #[jI d.W,jI d.H,jI d.T,jI d.R] 25]:=E 9 V
 have ay:=e9
 have q0:=E 0 V
 have q1:=E 1 V
 have q2:=E 2 V
 have q3:=E 3 V
 have q5:=E 5 V
 have q6:=E 6 V
 have q7:=E 7 V
 refine cL (bE [19,9,8,7,6,5,4,3,2,0] _ (aX 29 e1.1 (aX 32 au (aX 36 ax (aA _)))) A) (by simp only[b8,au,cd,ax,ay,q0.2,q1.2,q2.2,q3.2,q5.2,q6.2,q7.2,fS]<;>rfl) ?_
 simp only[drop_succ_cons,drop_zero]
 refine bG 3 A ?_
 refine cW (cK ?_)
 refine bN 8 [7,6,5,4,3,1,0,2] A A V ?_
 refine fH (curE g a e B::rI9 3 aw ae::rS9 44 4 ar cs cnC::bigE cp::boxE b1 #[jI d.W,jI d.H,jI d.T,jI d.R] 25::rowE 3 1 aa ((bs.map Bk.kd).length) (mI (bs.map Bk.kd))::boxE b5 #[jI n.ins,n.sv,n.lv,n.ov] 108::boxE b9 #[jI d.W,jI d.H,jI d.T,jI d.R] 25::bigE tp::l) gN ?_
 have az:=bc.resolve_right (fun q=>q.1 b4)
 have dx:(bs.map Bk.kd).length=bs.length:=length_map _
 refine bN 9 [7,6,4,3,1,2,5,0] A A V ?_
 refine dN 5 A ?_
 exact fU (rs:=[.cell 2 25,.tmp 3,.tmp 4,.tmp 5]) (vs:=[.agg #[jI d.W,jI d.H,jI d.T,jI d.R],aa,ar,aw]) A ⟨⟨b1,0,[jI d.W,jI d.H,jI d.T,jI d.R],A,A,F,F,aM 1 A 0 A⟩,A,A,A,trivial⟩ A (fun w X=>⟨_,bigE [curE g a e B,rowE 3 1 aa ((bs.map Bk.kd).length) (mI (bs.map Bk.kd)),rS9 44 4 ar cs cnC,rI9 3 aw ae,bigE cp],A,⟨_,_,(bs.map Bk.kd),ae,cs,_,_,_,A,A,c9,O,by have:=az.2.1;omega,O,Iu ca (coP_pl a5 az.2.2 az.2.1 cb cc)⟩,X.sub (.cons_cons _ (pR 3 A))⟩)
 refine dL (aV A (eC (aG (cN 1 A ?_))))
 refine cR (R:=(fun M D=>(∃d:Dev,Drawn d∧M=.agg #[jI d.W,jI d.H,jI d.T,jI d.R])∧D=curE g a e B)) 1 A A A A A (fun l' w X=>vI X hb) ?_
 intro dy dz cg
 obtain⟨⟨d,hdr,rfl⟩,rfl⟩:=cg
 have a5:=hdr.ok
 obtain⟨df,dg⟩:=mW a5
 refine dO (l':=(boxE b1 #[jI 0,jI 0,jI 0,jI 0] 25::curE g a e B::l)) A ?_
 refine cU A (bY (z:=.agg #[jI 0,jI 0,jI 0,jI 0]) A A) ?_
 intro Y
 refine cA (cs':=#[jI d.W,jI d.H,jI d.T,jI d.R]) (i:=0) (off:=0) (us:=[jI d.W,jI d.H,jI d.T,jI d.R]) A A A A A A A (aC A (aC A (aC A (aC A bH)))) A A A (dL (dW ?_))
 refine cH A (bU (s:=1) A z8 A) ?_
 intro ch
 refine bG 1 A (aG (aG (cN 1 A ?_)))
 refine cR (R:=(fun M D=>(∃x:Int,M=jI x∧0≤x∧(1≤(5:Int)→x<(5:Int)))∧D=curE g a e B)) 3 A A A A A (fun l' w X=>iT g a e B z 5 _ _ _ X hb O) ?_
 intro ea eb ci
 obtain⟨⟨cj,rfl,dh,di⟩,rfl⟩:=ci
 refine dO (l':=(rowE 3 1 (.slice (some ⟨ch,0,none⟩) 0 0) 0 ([])::boxE Y #[jI d.W,jI d.H,jI d.T,jI d.R] 25::boxE b1 #[jI 0,jI 0,jI 0,jI 0] 25::curE g a e B::l)) A ?_
 refine aN A (eY A A A) (bG 1 A (bS ?_))
 refine fP (α:=Int) (β:=Value) (γ:=List Int) [0,2,3,4,5,10,19] A (fun k gu ks=>(rI9 3 gu ks::boxE Y #[jI d.W,jI d.H,jI d.T,jI d.R] 25::boxE b1 #[jI 0,jI 0,jI 0,jI 0] 25::curE g a e B::l)) (fun k gu ks=>[(11,gu),(12,jI k)]) (fun k gu ks=>(0≤k∧k≤5)∧(ks.length:Int)+k=1+cj∧∀x∈ks,0≤x∧x≤3) (fun k gu ks=>k.toNat) _ _ [] ⟨O,AI,(fun x hx=>by cases hx)⟩ (bV A) (.refl _) ?_
 intro k gu ks bd
 obtain⟨⟨ck,cl⟩,ed,be⟩:=bd
 refine aG (aG (cN 1 A ?_))
 refine fJ A A A A A A (fun cm=>?_) (fun cm=>?_)
 refine dL (aR A (eC (jR (cN 2 A ?_))))
 refine cH A (aH (z:=jI 0) (s:=1) (cs:=(mI [0,1,3,3])) A z8 A V A F A) ?_
 intro bf
 refine jP (R:=(fun M D=>(∃x:Int,M=jI x∧x∈([0,1,3,3]:List Int))∧D=curE g a e B)) 4 A A A A A (fun L w hX X=>iV g a e B z (.slice (some ⟨bf,0,none⟩) 4 4) [0,1,3,3] _ _ _ X hb (fun w X=>Fj (hX w X) 0 A) V) ?_
 intro ee ef cn
 obtain⟨⟨al,rfl,bg⟩,rfl⟩:=cn
 have dj:=Kj bg
 refine dO (l':=(rowE 3 1 (.slice (some ⟨bf,0,none⟩) 4 4) 4 (mI [0,1,3,3])::rI9 3 gu ks::boxE Y #[jI d.W,jI d.H,jI d.T,jI d.R] 25::boxE b1 #[jI 0,jI 0,jI 0,jI 0] 25::curE g a e B::l)) A ?_
 refine cH A (aH (z:=jI 0) (s:=1) (cs:=(mI [al])) A z8 A V A F A) ?_
 intro eg
 refine bT (i:=2) (z:=jI 0) (bytes:=8) A A A A z8 F A A A A (aB 0 A) (bI _) AD (bK ks ([al])) (cB ks ([al])) (fun _=>A) ?_
 intro co
 refine eS 1 A (eB (cN 1 A (aN A (nK A A A) (eS 1 A ?_))))
 exact aQ (k-1) co (ks++([al])) ⟨O,by rw[length_append,length_singleton];omega,ks_app be I⟩ O (bV rfl) (pR 2 rfl)
 refine dL (aV A ?_)
 refine bW (fM ?_)
 refine aO (bB ?_)
 refine rA (α:=Value×List Int) (fun K=>(rI9 3 K.1 K.2::boxE Y #[jI d.W,jI d.H,jI d.T,jI d.R] 25::boxE b1 #[jI 0,jI 0,jI 0,jI 0] 25::curE g a e B::l)) (fun K=>[(0,pI g),(2,pI b1),(3,.slice none 0 0),(4,.slice none 0 0),(5,.slice none 0 0),(10,pI Y),(11,K.1),(12,jI k),(19,.bool false),(44,.bool false)]) (fun K=>1≤K.2.length∧K.2.length≤64∧∀x∈K.2,0≤x∧x≤3) ?_ ?_
 refine dW (aN A (aP (cs:=[jI d.W,jI d.H,jI d.T,jI d.R]) A A A A A (aM 1 A 0 A)) ?_)
 refine fF A A A (aF A A (fun w X=>nG d 1 w a5)) ?_
 intro eh ei cq
 subst cq
 refine aN A (eV A A A (aB 0 A)) (bZ A A A A A A (fun cr=>?_) (fun cr=>?_))
 refine dL (aR A (bP ?_))
 refine cH A (aH (z:=jI 0) (s:=1) (cs:=(mI [0,1])) A z8 A V A F A) ?_
 intro ct
 refine eS 1 A ?_
 exact fV (.slice (some ⟨ct,0,none⟩) 2 2,[0,1]) ⟨by show 1≤List.length [_,_];simp,by show List.length [_,_]≤64;simp,fun x hx=>Hx hx⟩ (bV A) (.cons_cons _ (pR 2 A))
 refine dL (jQ A ?_)
 exact fV (gu,ks) ⟨by show 1≤ks.length;omega,by show ks.length≤64;omega,be⟩ (bV A) (.cons _ (.refl _))
 intro K bh
 obtain⟨cu,cw,cx⟩:=bh
 refine aG (cN 1 A (aN A (aP (cs:=[jI d.W,jI d.H,jI d.T,jI d.R]) A A A A A (aM 1 A 0 A)) (aS 1 A ?_)))
 refine jP (R:=(fun M D=>∃zs:List Int,D=bigE [curE g a e B,rI9 3 M zs]∧(lenN M=zs.length∧M.oneCell'=true)∧((Fits d K.2∧zs.length=K.2.length∧PlP d K.2 zs)∨(¬Fits d K.2∧zs=[])))) 3 A A A A A (fun L w hX X=>kN g a e B z d K.2 K.1 _ _ _ X hb a5 (fun w ad=>by have h9:=hX w ad;exact aB 0 rfl w h9) O) ?_
 intro af ej cy
 obtain⟨a7,rfl,⟨cz,d0⟩,bi⟩:=cy
 refine dO (l':=(rI9 3 K.1 K.2::boxE Y #[jI d.W,jI d.H,jI d.T,jI d.R] 25::boxE b1 #[jI 0,jI 0,jI 0,jI 0] 25::bigE [curE g a e B,rI9 3 af a7]::l)) A ?_
 refine bG 1 A ?_
 refine kX (α:=Value×List Int) (β:=Value×List Int) (fun J Z=>(curE g a e B::rI9 3 J.1 J.2::rI9 3 Z.1 Z.2::boxE Y #[jI d.W,jI d.H,jI d.T,jI d.R] 25::boxE b1 #[jI 0,jI 0,jI 0,jI 0] 25::l)) (fun J Z=>[(0,pI g),(2,pI b1),(3,.slice none 0 0),(4,.slice none 0 0),(5,.slice none 0 0),(10,pI Y),(11,J.1),(12,jI k),(13,Z.1),(19,.bool false),(44,.bool false)]) (fun J Z=>(1≤J.2.length∧J.2.length≤64∧∀x∈J.2,0≤x∧x≤3)∧Z.2.length=J.2.length∧PlP d J.2 Z.2) ?_ ?_
 refine dW ?_
 refine kQ 4 [2,1,0,3] A A V ?_
 refine jZ (curE g a e B::rI9 3 af a7::rI9 3 K.1 K.2::boxE Y #[jI d.W,jI d.H,jI d.T,jI d.R] 25::boxE b1 #[jI 0,jI 0,jI 0,jI 0] 25::l) gN ?_
 refine aS 1 A (aN A (eV A A A (aB 1 A)) ?_)
 refine bZ A A A A A A (fun d1=>?_) (fun d1=>?_)
 refine dL (aR A (dW ?_))
 refine cH A (aH (z:=jI 0) (s:=1) (cs:=(mI [0,1])) A z8 A V A F A) ?_
 intro am
 refine bG 1 A (cN 1 A (aN A (aP (cs:=[jI d.W,jI d.H,jI d.T,jI d.R]) A A A A A (aM 4 A 0 A)) (aS 1 A ?_)))
 refine jP (R:=(fun M D=>∃zs:List Int,D=bigE [curE g a e B,rI9 3 M zs]∧(lenN M=zs.length∧M.oneCell'=true)∧((Fits d ([0,1])∧zs.length=([0,1]).length∧PlP d ([0,1]) zs)∨(¬Fits d ([0,1])∧zs=[])))) 1 A A A A A (fun L w hX X=>kN g a e B z d ([0,1]) (.slice (some ⟨am,0,none⟩) 2 2) _ _ _ X hb a5 (fun w ad=>by have h9:=hX w ad;exact aB 0 rfl w h9) AI) ?_
 intro b0 ek d2
 obtain⟨ag,rfl,⟨d3,d4⟩,bj⟩:=d2
 refine dO (l':=(rowE 3 1 (.slice (some ⟨am,0,none⟩) 2 2) 2 (mI [0,1])::bigE [curE g a e B,rI9 3 b0 ag]::rI9 3 af a7::rI9 3 K.1 K.2::boxE Y #[jI d.W,jI d.H,jI d.T,jI d.R] 25::boxE b1 #[jI 0,jI 0,jI 0,jI 0] 25::l)) A ?_
 refine eS 1 A ?_
 refine bN 6 [5,4,3,2,0,1] A A V ?_
 refine fH (curE g a e B::rI9 3 b0 ag::rowE 3 1 (.slice (some ⟨am,0,none⟩) 2 2) 2 (mI [0,1])::rI9 3 af a7::rI9 3 K.1 K.2::boxE Y #[jI d.W,jI d.H,jI d.T,jI d.R] 25::boxE b1 #[jI 0,jI 0,jI 0,jI 0] 25::l) gN ?_
 have bk:=bj.resolve_right (fun q=>q.1 (two_io a5))
 refine bN 7 [6,5,1,2,0] A A V ?_
 exact eU (.slice (some ⟨am,0,none⟩) 2 2,[0,1]) (b0,ag) ⟨⟨by show 1≤List.length [_,_];simp,by show List.length [_,_]≤64;simp,fun x hx=>Hx hx⟩,bk.2.1,bk.2.2⟩ (bV A) (.refl _)
 refine dL (jQ A ?_)
 have bl:=bi.resolve_right (fun q=>by have h2:=congrArg List.length q.2;rw[List.length_nil] at h2;omega)
 refine bN 5 [4,3,1,2,0] A A V ?_
 exact eU (K.1,K.2) (af,a7) ⟨⟨cu,cw,cx⟩,bl.2.1,bl.2.2⟩ (bV A) (.refl _)
 intro J Z bm
 obtain⟨⟨el,em,en⟩,eo,ep⟩:=bm
 refine dW ?_
 refine cH A (bU (s:=4) A Tryz.underlying27 A) ?_
 intro d5
 refine bG 1 A (aG (aG (cN 1 A ?_)))
 refine cR (R:=(fun M D=>(∃x:Int,M=jI x∧0≤x∧(1≤(5:Int)→x<(5:Int)))∧D=curE g a e B)) 1 A A A A A (fun l' w X=>iT g a e B z 5 _ _ _ X hb O) ?_
 intro eq er d6
 obtain⟨⟨et,rfl,dk,dl⟩,rfl⟩:=d6
 refine dO (l':=(rowE 44 4 (.slice (some ⟨d5,0,none⟩) 0 0) 0 ([])::curE g a e B::rI9 3 J.1 J.2::rI9 3 Z.1 Z.2::boxE Y #[jI d.W,jI d.H,jI d.T,jI d.R] 25::boxE b1 #[jI 0,jI 0,jI 0,jI 0] 25::l)) A ?_
 refine bG 1 A (bS ?_)
 refine fK _ hF ?_
 refine fP (α:=Int) (β:=Value×List Cn) (γ:=List HP) [0,2,3,4,5,10,11,13,19,44] A (fun i U ps=>(bigE ps::rS9 44 4 U.1 U.2 cnC::curE g a e B::rI9 3 J.1 J.2::rI9 3 Z.1 Z.2::boxE Y #[jI d.W,jI d.H,jI d.T,jI d.R] 25::boxE b1 #[jI 0,jI 0,jI 0,jI 0] 25::l)) (fun i U ps=>[(14,U.1),(15,jI i)]) (fun i U ps=>(0≤i∧i≤4)∧(U.2.length:Int)+i≤4∧CnIn J.2.length U.2∧CnM 120 U.2∧∀w,(bigE ps).holds w→KsR w U.2) (fun i U ps=>i.toNat) _ (_,[]) _ ⟨O,by show((0:Nat):Int)+_≤4;omega,CnIn.nil _,CnM.nil _,fun w _=>KsR.nil w⟩ (bV A) (.refl _) ?_
 intro i U ps bn
 obtain⟨⟨eu,ew⟩,ex,bo,bp,bq⟩:=bn
 refine aG (aG (cN 1 A ?_))
 refine fJ A A A A A A (fun d7=>?_) (fun d7=>?_)
 refine dL (aR A (eC (jR (aG (cN 3 A (aN A (eV A A A (aB 3 A)) ?_))))))
 refine cR (R:=(fun M D=>(∃x:Int,M=jI x∧0≤x∧(1≤((J.2.length:Int):Int)→x<((J.2.length:Int):Int)))∧D=curE g a e B)) 2 A A A A A (fun l' w X=>iT g a e B z (J.2.length:Int) _ _ _ X hb O) ?_
 intro ey ez d8
 obtain⟨⟨a0,rfl,dm,dn⟩,rfl⟩:=d8
 refine dO (l':=(bigE ps::rS9 44 4 U.1 U.2 cnC::curE g a e B::rI9 3 J.1 J.2::rI9 3 Z.1 Z.2::boxE Y #[jI d.W,jI d.H,jI d.T,jI d.R] 25::boxE b1 #[jI 0,jI 0,jI 0,jI 0] 25::l)) A ?_
 refine aS 1 A (cR (R:=(fun M D=>(∃x:Int,M=jI x∧0≤x∧(1≤(2:Int)→x<(2:Int)))∧D=curE g a e B)) 2 A A A A A (fun l' w X=>iT g a e B z 2 _ _ _ X hb O) ?_)
 intro f0 f1 d9
 obtain⟨⟨a1,rfl,dp,dq⟩,rfl⟩:=d9
 refine dO (l':=(bigE ps::rS9 44 4 U.1 U.2 cnC::curE g a e B::rI9 3 J.1 J.2::rI9 3 Z.1 Z.2::boxE Y #[jI d.W,jI d.H,jI d.T,jI d.R] 25::boxE b1 #[jI 0,jI 0,jI 0,jI 0] 25::l)) A ?_
 refine aN A (dG (cs:=#[jI a0,jI a1]) A A A) (aN A (dG (cs:=#[jI i,jI a0,jI a1,.slice none 0 0]) A A A) ?_)
 refine cU A (bY (z:=.agg #[jI 0,jI 0,jI 0,.slice none 0 0]) A A) ?_
 intro ah
 refine cA (cs':=#[jI i,jI a0,jI a1,.slice none 0 0]) (i:=0) (off:=0) (us:=[jI i,jI a0,jI a1,.slice none 0 0]) A A A A A A A (aC A (aC A (aC A (aC A bH)))) A A A (dL (aG (aG (cN 1 A ?_))))
 refine cR (R:=(fun M D=>(∃x:Int,M=jI x∧0≤x∧(1≤(3:Int)→x<(3:Int)))∧D=curE g a e B)) 3 A A A A A (fun l' w X=>iT g a e B z 3 _ _ _ X hb O) ?_
 intro f2 f3 da
 obtain⟨⟨db,rfl,dr,ds⟩,rfl⟩:=da
 refine dO (l':=(boxE ah #[jI i,jI a0,jI a1,.slice none 0 0] 44::bigE ps::rS9 44 4 U.1 U.2 cnC::curE g a e B::rI9 3 J.1 J.2::rI9 3 Z.1 Z.2::boxE Y #[jI d.W,jI d.H,jI d.T,jI d.R] 25::boxE b1 #[jI 0,jI 0,jI 0,jI 0] 25::l)) A ?_
 refine bG 1 A (bS ?_)
 refine fK (rowE 41 2 (.slice none 0 0) (([]:List Pn).length) (([]:List Pn).flatMap pnC)::boxE ah #[jI i,jI a0,jI a1,.slice none 0 0] 44::bigE ps::rS9 44 4 U.1 U.2 cnC::curE g a e B::rI9 3 J.1 J.2::rI9 3 Z.1 Z.2::boxE Y #[jI d.W,jI d.H,jI d.T,jI d.R] 25::boxE b1 #[jI 0,jI 0,jI 0,jI 0] 25::l) (fun w X=>X.nilRow 41 2) ?_
 refine fP (α:=Int) (β:=Value) (γ:=List Pn) [0,2,3,4,5,10,11,13,14,15,16,19,44,74] A (fun k ui xs=>(rS9 41 2 ui xs pnC::boxE ah #[jI i,jI a0,jI a1,ui] 44::bigE ps::rS9 44 4 U.1 U.2 cnC::curE g a e B::rI9 3 J.1 J.2::rI9 3 Z.1 Z.2::boxE Y #[jI d.W,jI d.H,jI d.T,jI d.R] 25::boxE b1 #[jI 0,jI 0,jI 0,jI 0] 25::l)) (fun k ui xs=>[(17,jI k)]) (fun k ui xs=>(-1≤k∧k≤2)∧(xs.length:Int)+k=db∧PnIn J.2.length xs) (fun k ui xs=>(k+1).toNat) _ _ [] ⟨O,AI,PnIn.nil _⟩ (bV A) (.refl _) ?_
 intro k ui xs br
 obtain⟨⟨ck,cl⟩,f4,bt⟩:=br
 refine aG (aG (cN 1 A ?_))
 refine eK A A A A A A (fun dc=>?_) (fun dc=>?_)
 refine dL (aR A (eC (jR ?_)))
 refine jF 9 [8,7,6,5,3,2,1,0,4] A A V ?_
 refine kY (l:=(rS9 41 2 ui xs pnC::boxE ah #[jI i,jI a0,jI a1,ui] 44::bigE ps::rS9 44 4 U.1 U.2 cnC::rI9 3 J.1 J.2::rI9 3 Z.1 Z.2::boxE Y #[jI d.W,jI d.H,jI d.T,jI d.R] 25::boxE b1 #[jI 0,jI 0,jI 0,jI 0] 25::l)) A 10 [0,1,2,3,4,5,6,7,8,9] (List.take 10 _) (List.drop 10 _) [[],[0],[],[],[3],[2,4],[],[5,6],[5,7],[5,7,8]] [92,93,94,95,96,97,98,99,100,101] (fun i_ ac v_ D=>match i_ with|0=>v_=.pointer (some ⟨ah,0+3,none⟩)∧D=[]|1=>v_=ui∧D=[]|2=>v_=pI g∧D=[]|3=>v_=J.1∧D=[]|4=>v_=jI (J.2.length:Int)∧D=[]|5=>(∃a6,D=[a6]∧(fun M D=>(∃x:Int,M=jI x∧0≤x∧(1≤((J.2.length:Int):Int)→x<((J.2.length:Int):Int)))∧D=curE g a e B) v_ a6)|6=>v_=pI g∧D=[]|7=>(∃a6,D=[a6]∧(fun M D=>(∃x:Int,M=jI x∧0≤x∧(1≤(5:Int)→x<(5:Int)))∧D=curE g a e B) v_ a6)|8=>v_=.agg #[jI (intOf_o (gV9 ac 0)),jI (intOf_o (gV9 ac 1))]∧D=[]|9=>IsRow 41 2 1 (mI [(intOf_o (gV9 ac 0)),(intOf_o (gV9 ac 1))]) v_ D|_=>True) [[],[0],[],[],[3],[2,4],[],[6],[7],[7,8]] [none,none,none,none,none,some 13,none,some 5,none,none] [curE g a e B] [0,1,2,3,4,6,7,8,9] 13 (take_append_drop 10 _).symm F F F A A ?_ ?_
 refine⟨?_,?_,?_,?_,?_,?_,?_,?_,?_,?_,trivial⟩
 intro vf pf G E
 refine kB [] [] A (aZ (aD [16] A) ?_)
 exact aK (fY 3 A A A)
 intro vf pf G E
 have e0:=E 0 V
 refine kB [0] [0] A (bC (aX 92 e0.1 (aA _)) z9 ?_)
 exact aK (bJ A A A (bA 1 A A))
 intro vf pf G E
 refine kB [] [] A (aZ (aD [0] A) ?_)
 exact aK (aU A)
 intro vf pf G E
 refine kB [] [] A (aZ (aD [11] A) ?_)
 exact aK (aU A)
 intro vf pf G E
 have e3:=E 3 V
 refine kB [3] [3] A (bC (aX 95 e3.1 (aA _)) z9 ?_)
 exact aK (eV A A A (aB 4 A))
 intro vf pf G E
 have e2:=E 2 V
 have e4:=E 4 V
 refine Or.inl ⟨A,?_⟩
 show RunM _ _ _ (pf 13) (([2,4]:List Nat).flatMap pf++_) (envOf _ vf [2,4]++_) _ _
 rw[G]
 exact eJ (aX 94 e2.1 (aX 96 e4.1 (aA _))) (by simp only[e2.2,e4.2,fS]<;>rfl) (gX (R:=(fun M D=>(∃x:Int,M=jI x∧0≤x∧(1≤((J.2.length:Int):Int)→x<((J.2.length:Int):Int)))∧D=curE g a e B)) A A (fun L w hX X=>iT g a e B z (J.2.length:Int) _ _ _ X hb O))
 intro vf pf G E
 refine kB [] [] A (aZ (aD [0] A) ?_)
 exact aK (aU A)
 intro vf pf G E
 obtain⟨b2,an,a4⟩:=E 5 V
 obtain⟨b3,a3⟩:=dU (vf 5)
 rw[a3] at a4
 obtain⟨⟨a8,rfl,ai,aj⟩,rfl⟩:=a4
 have e6:=E 6 V
 refine Or.inl ⟨A,?_⟩
 show RunM _ _ _ (pf 5) (([6]:List Nat).flatMap pf++_) (envOf _ vf [5,6]++_) _ _
 rw[an]
 exact eJ (aX 98 e6.1 (aA _)) (by simp only[e6.2,fS]<;>rfl) (gX (R:=(fun M D=>(∃x:Int,M=jI x∧0≤x∧(1≤(5:Int)→x<(5:Int)))∧D=curE g a e B)) A A (fun L w hX X=>iT g a e B z 5 _ _ _ X hb O))
 intro vf pf G E
 obtain⟨b2,an,a4⟩:=E 5 V
 obtain⟨b3,a3⟩:=dU (vf 5)
 rw[a3] at a4
 obtain⟨⟨a8,rfl,ai,aj⟩,rfl⟩:=a4
 obtain⟨bu,ak,a9⟩:=E 7 V
 obtain⟨bw,a2⟩:=dU (vf 7)
 rw[a2] at a9
 obtain⟨⟨ab,rfl,ao,ap⟩,rfl⟩:=a9
 refine kB [7] [5,7] A (bQ (aX 97 a3 (aX 99 a2 (aA _))) (by simp only[ak,a2,fS]<;>rfl) ?_)
 exact dM (aK (dG (cs:=#[jI a8,jI ab]) A A A)) (fun _ _ h=>⟨h.1.trans (by show _=(.agg #[jI (intOf_o (vf 5)),jI (intOf_o (vf 7))]:Value);first|(rw[a3,a2];done)|(rw[a3,a2];rfl)),h.2⟩)
 intro vf pf G E
 obtain⟨b2,an,a4⟩:=E 5 V
 obtain⟨b3,a3⟩:=dU (vf 5)
 rw[a3] at a4
 obtain⟨⟨a8,rfl,ai,aj⟩,rfl⟩:=a4
 obtain⟨bu,ak,a9⟩:=E 7 V
 obtain⟨bw,a2⟩:=dU (vf 7)
 rw[a2] at a9
 obtain⟨⟨ab,rfl,ao,ap⟩,rfl⟩:=a9
 have e8:(vf 8)=.agg #[jI (intOf_o (vf 5)),jI (intOf_o (vf 7))]∧(pf 8)=[]:=E 8 V
 rw[a3,a2] at e8
 refine kB [7,8] [5,7,8] A (bQ (aX 100 e8.1 (aA _)) (by simp only[ak,a2,e8.2,fS]<;>rfl) ?_)
 exact dM (aH (z:=.agg #[jI 0,jI 0]) (s:=2) (cs:=(mI [a8,ab])) A Tryz.underlying42 A V A F A) (fun v_ D h=>by show IsRow 41 2 1 (mI [(intOf_o (vf 5)),(intOf_o (vf 7))]) v_ D;rw[a3,a2];exact h)
 intro vf pf G E
 have e1:=E 1 V
 obtain⟨b2,an,a4⟩:=E 5 V
 obtain⟨b3,a3⟩:=dU (vf 5)
 rw[a3] at a4
 obtain⟨⟨a8,rfl,ai,aj⟩,rfl⟩:=a4
 obtain⟨bu,ak,a9⟩:=E 7 V
 obtain⟨bw,a2⟩:=dU (vf 7)
 rw[a2] at a9
 obtain⟨⟨ab,rfl,ao,ap⟩,rfl⟩:=a9
 have e9:IsRow 41 2 1 (mI [(intOf_o (vf 5)),(intOf_o (vf 7))]) (vf 9) (pf 9):=E 9 V
 rw[a3,a2] at e9
 obtain⟨f5,bx,ay⟩:=e9
 have q0:=E 0 V
 have q1:=E 1 V
 have q2:=E 2 V
 have q3:=E 3 V
 have q4:=E 4 V
 have q6:=E 6 V
 have q8:=E 8 V
 refine cL (bE [89,74,44,19,17,16,15,14,13,11,10,5,4,3,2,0] _ (aX 93 e1.1 (aX 101 bx (aA _))) A) (by simp only[ak,a2,ay,bx,q0.2,q1.2,q2.2,q3.2,q4.2,q6.2,q8.2,fS]<;>rfl) ?_
 simp only[drop_succ_cons,drop_zero]
 refine bT (i:=2) (z:=.agg #[jI 0,jI 0]) (bytes:=16) A A A A Tryz.underlying42 F A A A A (aB 1 A) (bI _) AC (bK xs [(Pn.mk a8 ab)]) (dP pnC xs (Pn.mk a8 ab) _ A) (fun _=>A) ?_
 intro bz
 refine aN A (fY 3 A A A) (eE (i:=2) A (fun c0=>?_))
 refine gB (i:=3) (cs':=#[jI i,jI a0,jI a1,bz]) A A A A A A c0 A A A A (cP (eB (cN 1 A (aN A (nK A A A) (eS 1 A ?_)))))
 refine bN 10 [9,8,7,6,0,5,4,3,2] A A V ?_
 exact aQ (k-1) bz (xs++[(Pn.mk a8 ab)]) ⟨O,by rw[length_append,length_singleton];omega,bt.app ⟨⟨O,O⟩,O,O⟩⟩ O (bV rfl) (.refl _)
 refine dL (aV A ?_)
 refine bW (fM ?_)
 refine aO (bB (cN 1 A (aN A (aP (cs:=[jI i,jI a0,jI a1,ui]) A A A A A (aM 1 A 0 A)) ?_)))
 refine cH A (aH (z:=.agg #[jI 0,jI 0,jI 0,.slice none 0 0]) (s:=4) (cs:=[jI i,jI a0,jI a1,ui]) A Tryz.underlying27 A V A F A) ?_
 intro f6
 refine eE (i:=1) A (fun c1=>?_)
 refine bT (i:=4) (z:=.agg #[jI 0,jI 0,jI 0,.slice none 0 0]) (bytes:=48) A A A A Tryz.underlying27 F A A A A (aB 0 A) (aC A (aC A (aC A (aC c1 bH)))) AC (bK U.2 [(Cn.mk i a0 a1 ui xs)]) (dP cnC U.2 (Cn.mk i a0 a1 ui xs) _ A) (fun _=>A) ?_
 intro dd
 refine eS 1 A (eB (cN 1 A (aN A (nK A A A) (eS 1 A ?_))))
 refine bN 10 [9,8,7,6,5,4,1,3] A A V ?_
 refine dN 2 A ?_
 exact aQ (i-1) (dd,U.2++[(Cn.mk i a0 a1 ui xs)]) [bigE ps,rS9 41 2 ui xs pnC] ⟨O,by show((List.length (_++[_]):Nat):Int)+_≤4;rw[length_append,length_singleton];omega,bo.app ⟨O,O⟩ O bt,bp.app (by show xs.length≤120;omega),fun w hw=>(bq w (bF hw eG)).app (cI (bF hw (fW eG)))⟩ O (bV rfl) (.refl _)
 refine dL (aV A ?_)
 refine bW (fM ?_)
 refine aO (bB (dW (aN A (aP (cs:=[jI d.W,jI d.H,jI d.T,jI d.R]) A A A A A (aM 5 A 0 A)) (aS 3 A ?_))))
 refine cA (cs':=#[jI d.W,jI d.H,jI d.T,jI d.R]) (i:=6) (off:=0) (us:=[jI d.W,jI d.H,jI d.T,jI d.R]) A A A A A A A (aC A (aC A (aC A (aC A bH)))) A A A (bG 3 A ?_)
 refine cW (bN 7 [6,5,0,4,1,3,2] A A V ?_)
 refine dN 5 A ?_
 exact fU (rs:=[.cell 2 25,.tmp 3,.tmp 4,.tmp 5]) (vs:=[.agg #[jI d.W,jI d.H,jI d.T,jI d.R],J.1,U.1,Z.1]) A ⟨⟨b1,0,[jI d.W,jI d.H,jI d.T,jI d.R],A,A,F,F,aM 2 A 0 A⟩,A,A,A,trivial⟩ A (fun w X=>⟨_,bigE [curE g a e B,rI9 3 J.1 J.2,rS9 44 4 U.1 U.2 cnC,rI9 3 Z.1 Z.2,bigE ps],A,⟨_,_,J.2,Z.2,U.2,_,_,_,A,A,bq,O,O,O,Iu bo ⟨O,fun q hq=>bp _ (dJ (d:=cn0) hq)⟩⟩,X.sub (.cons_cons _ (pR 2 A))⟩)
open Go.RowKit
noncomputable def cntS (d:Dev) (pl:List Int) (ws:List Int) (cs:List Cn):Int:=((cs.filter fun c=>apB d pl c ws).length:Int)
theorem xC {d:Dev}{pl ws:List Int}{cs:List Cn}{i:Nat}(h:i<cs.length):cntS d pl ws (cs.take (i+1))=cntS d pl ws (cs.take i)+(if apB d pl (cs.getD i cn0) ws=true then 1 else 0):=by
  unfold cntS
  rw[tR cn0 h,List.filter_append,length_append]
  by_cases e:apB d pl (cs.getD i cn0) ws=true
  · rw[if_pos e,List.filter_cons_of_pos (by exact e)];simp
  · rw[if_neg e,List.filter_cons_of_neg (by exact e)];simp
theorem rF (d:Dev) (pl ws:List Int) (cs:List Cn):0≤cntS d pl ws cs∧cntS d pl ws cs≤cs.length:=by
  unfold cntS
  have:=List.length_filter_le (fun c=>apB d pl c ws) cs
  omega
noncomputable def scI (d:Dev) (pl:List Int) (cs:List Cn) (ws:List Int):Int:=if wsB d ws=true then cntS d pl ws cs else 0
theorem Lc {N:Nat}{d:Dev}{ws:List Int}{e:List Bl}(h:WsM N ws ws.length e) (D:N=(allI d).toNat):∀x:Int,0≤x→x<allI d→((e.getD x.toNat bl0).b=true↔x∈ws):=fun x B E=>by
  have:=h.mks x B O
  rwa [take_length] at this
theorem tB {d:Dev}{ws:List Int}(h:wsB d ws=true):devB d=true∧∀k,k<ws.length→0≤ws.getD k 0∧ws.getD k 0<allI d:=by
  unfold wsB at h
  rw[and_eq_true,decide_eq_true_eq] at h
  refine⟨h.1,fun k B=>?_⟩
  have e:=(h.2 k B).1
  unfold isWireI at e
  rw[and_eq_true] at e
  obtain⟨a,b,c⟩:=fN e.1
  omega
theorem Ar (b:Bool) (w:World)  :
   Calls Tryz.prog 25 #[.bool b] w (Ans w (.int .i64 (if b=true then 1 else 0))):=by
 refine aY (N:=4) (args:=[.bool b]) Tryz.func25 A A (cF 1 A (aG (aG (cN 1 A ?_))))
 refine bD (fun e=>go ?_) (fun e=>go ?_)
 exact aT A A (by first|rw[if_pos I]|rw[if_neg (by simp_all)])
 exact aT A A (by first|rw[if_pos I]|rw[if_neg (by simp_all)])
theorem jS (d:Dev) (pl:List Int) (pv:Value) (cs:List Cn) (X:Value) (ws:List Int) (wv:Value) (w:World) (a3:RdsW w pv 1 pl.length (pl.map (Value.int .i64))) (a4:pl.length≤64) (hc:RdsCn w X cs) (af:cs.length≤100000) (a5:∀c∈cs,CnB c) (Y:RdsW w wv 1 ws.length (ws.map (Value.int .i64))) (ag:ws.length≤1000000) :
   Calls Tryz.prog 9 #[.agg #[.int .i64 d.W,.int .i64 d.H,.int .i64 d.T,.int .i64 d.R],pv,X,wv] w (Ans w (.int .i64 (scI d pl cs ws))):=by
 refine aY (N:=40) (args:=[.agg #[jI d.W,jI d.H,jI d.T,jI d.R],pv,X,wv]) Tryz.func9 A A (dW ?_)
 refine cU A (cE A A) ?_
 intro b1
 refine bG 1 A (kE (aN A (aP (cs:=[jI d.W,jI d.H,jI d.T,jI d.R]) A A A A A (aM 0 A 0 A)) (aS 1 A ?_)))
 refine cM A (aF A A (fun w K=>aI (uP d ws _ w (Y.below K.bel) O))) (bD (fun h2=>?_) (fun h2=>?_))
 obtain⟨hd,a6⟩:=tB h2
 obtain⟨ah,ai⟩:=eM hd
 refine bG 1 A (aV A (eC (dW (aN A (aP (cs:=[jI d.W,jI d.H,jI d.T,jI d.R]) A A A A A (aM 0 A 0 A)) ?_))))
 refine fF A A A (aF A A (fun w K=>qQ d w hd)) ?_
 intro v3 p4 R5
 obtain⟨gp,gr,rfl,Z,a0⟩:=R5
 have aj:=a0.1
 refine bG 1 A (cF 1 A (aG (aG (cN 1 A ?_))))
 refine dL (bS ?_)
 refine iG (α:=Nat) (β:=Int) [0,1,2,3,4,8,9,15] A (fun i n=>[bigE gp,boxE b1 #[jI d.W,jI d.H,jI d.T,jI d.R] 25]) (fun i n=>[(10,jI n),(11,jI (i:Int))]) (fun i n=>i≤cs.length∧n=cntS d pl ws (cs.take i)) (fun i n=>cs.length-i) 0 0 ⟨Nat.zero_le _,by simp[cntS]⟩ (bV A) (cZ A) ?_
 intro i n a7
 obtain⟨hi,U⟩:=a7
 have ak:=rF d pl ws (cs.take i)
 have al:(cs.take i).length=i:=by rw[length_take];omega
 refine aG (aG (cN 2 A (aN A (eV A A A (aE hc.row)) ?_)))
 refine aW A A A A A A (fun h7=>?_) (fun h7=>?_)
 refine dL (aR A (eC (jR ?_)))
 have a1:=xC (d:=d) (pl:=pl) (ws:=ws) (cs:=cs) (i:=i) O
 refine eI A 15 [0,1,2,3,4,5,6,7,8,9,10,11,12,13,14] (List.take 15 _) (List.drop 15 _) [[],[],[],[],[],[],[4,5],[6],[],[8],[],[9,10],[1,2,3,7,11],[11,12],[0,13]] [24,25,26,27,28,29,30,31,32,33,34,35,36,37,38] (fun i_ am J E=>match i_ with|0=>J=jI n∧E=[]|1=>J=v3∧E=[]|2=>J=.agg #[jI d.W,jI d.H,jI d.T,jI d.R]∧E=[]|3=>J=pv∧E=[]|4=>J=X∧E=[]|5=>J=jI (i:Int)∧E=[]|6=>J=elP X ((i:Int).toNat*4)∧E=[]|7=>J=.agg #[jI ((cs.getD i cn0).nd),jI ((cs.getD i cn0).sb),jI ((cs.getD i cn0).sp),(cs.getD i cn0).kv]∧E=[]|8=>J=v3∧E=[]|9=>J=jI (gr.length:Int)∧E=[]|10=>J=wv∧E=[]|11=>(fun u_ E=>∃bs:List Bl,E=[rS9 4 1 u_ bs blC]∧WsM (gr.length:Int).toNat ws ws.length bs) J E|12=>J=.bool (apB d pl (cs.getD i cn0) ws)∧E=[]|13=>J=jI (if (apB d pl (cs.getD i cn0) ws)=true then 1 else 0)∧E=[]|14=>J=jI (n+(if (apB d pl (cs.getD i cn0) ws)=true then 1 else 0))∧E=[]|_=>True) (take_append_drop 15 _).symm F F A A ?_ ?_
 refine⟨?_,?_,?_,?_,?_,?_,?_,?_,?_,?_,?_,?_,?_,?_,?_,trivial⟩
 intro vf D e
 exact fG A (aD [10] A) (aK (aU A))
 intro vf D e
 exact fG A (aD [9] A) (aK (aU A))
 intro vf D e
 exact eH A (aD [4] A) (aK (aP (cs:=[jI d.W,jI d.H,jI d.T,jI d.R]) A A A A A (aM 1 A 0 A)))
 intro vf D e
 exact fG A (aD [1] A) (aK (aU A))
 intro vf D e
 exact fG A (aD [2] A) (aK (aU A))
 intro vf D e
 exact fG A (aD [11] A) (aK (aU A))
 intro vf D e
 have e4:=e 4 V
 have e5:=e 5 V
 exact eH A (aX 28 e4.1 (aX 29 e5.1 (aA _))) (aK (cV 4 A A A A (aE hc.row)))
 intro vf D e
 have e6:=e 6 V
 exact eH A (aX 30 e6.1 (aA _)) (aK (cO (us:=[jI ((cs.getD i cn0).nd),jI ((cs.getD i cn0).sb),jI ((cs.getD i cn0).sp),(cs.getD i cn0).kv]) A A A A (aE hc.row) O A (dQ cnC 4 (fun _=>A) cs cn0 (show i<_ by omega) A)))
 intro vf D e
 exact fG A (aD [9] A) (aK (aU A))
 intro vf D e
 have e8:=e 8 V
 exact eH A (aX 32 e8.1 (aA _)) (aK (eV A A A (fun w K=>(Z w (K.holds _ (cT (i:=0) A))).row)))
 intro vf D e
 exact fG A (aD [3] A) (aK (aU A))
 intro vf D e
 have e9:=e 9 V
 have a8:=e 10 V
 exact eH A (aX 33 e9.1 (aX 34 a8.1 (aA _))) (aF A A (fun w K=>vW (gr.length:Int) ws _ w (Y.below K.bel) O O (fun k hk=>by have:=a6 k hk;omega)))
 intro vf D e
 have e1:=e 1 V
 have e2:=e 2 V
 have e3:=e 3 V
 have e7:=e 7 V
 obtain⟨v8,h⟩:=dU (vf 11)
 obtain⟨p9,B⟩:=dU (D 11)
 have G:=e 11 V
 rw[h,B] at G
 obtain⟨wb,rfl,M⟩:=G
 refine Or.inl ⟨A,?_⟩
 exact bQ (aX 25 e1.1 (aX 26 e2.1 (aX 27 e3.1 (aX 31 e7.1 (aX 35 h (aA _)))))) (by simp only[B,h,e1.2,e2.2,e3.2,e7.2,fS]<;>rfl) (aF A A (fun w K=>aI (yL d gr _ pl _ (cs.getD i cn0) ws wb _ w hd (Z w (K.holds _ (cT (i:=1) A))) a0 (a3.below K.bel) a4 ((hc.at (k:=i) O).below K.bel) (a5 _ (eN O)) (aB 0 A w K) (by have:=M.len;omega) (Lc M O))))
 intro vf D e
 obtain⟨v8,h⟩:=dU (vf 11)
 obtain⟨p9,B⟩:=dU (D 11)
 have G:=e 11 V
 rw[h,B] at G
 obtain⟨wb,rfl,M⟩:=G
 have a2:=e 12 V
 refine Or.inl ⟨A,?_⟩
 exact bQ (aX 36 a2.1 (aA _)) (by simp only[B,h,a2.2,fS]<;>rfl) (aF A A (fun w K=>aI (Ar (apB d pl (cs.getD i cn0) ws) w)))
 intro vf D e
 have e0:=e 0 V
 have a9:=e 13 V
 exact fG A (aX 24 e0.1 (aX 37 a9.1 (aA _))) (aK (eY A A A))
 intro vf D e
 obtain⟨v8,h⟩:=dU (vf 11)
 obtain⟨p9,B⟩:=dU (D 11)
 have G:=e 11 V
 rw[h,B] at G
 obtain⟨wb,rfl,M⟩:=G
 have aa:=e 14 V
 have q0:=e 0 V
 have q1:=e 1 V
 have q2:=e 2 V
 have q3:=e 3 V
 have q4:=e 4 V
 have q5:=e 5 V
 have q6:=e 6 V
 have q7:=e 7 V
 have q8:=e 8 V
 have q9:=e 9 V
 have ab:=e 10 V
 have ac:=e 12 V
 have ad:=e 13 V
 have ae:=e 14 V
 refine cL (bE [21,15,11,10,9,8,4,3,2,1,0] _ (aX 38 aa.1 (aA _)) A) (by simp only[B,h,q0.2,q1.2,q2.2,q3.2,q4.2,q5.2,q6.2,q7.2,q8.2,q9.2,ab.2,ac.2,ad.2,ae.2,fS]<;>rfl) ?_
 simp only[drop_succ_cons,drop_zero]
 refine eS 1 A (eB (cN 1 A (aN A (eY A A A) (eS 1 A ?_))))
 exact bO (i+1) (n+(if (apB d pl (cs.getD i cn0) ws)=true then 1 else 0)) ⟨O,by rw[a1,U]⟩ O (bV rfl) (eA [1,0] rfl)
 refine dL (aV A ?_)
 refine bW (fM ?_)
 refine aO (bB (cF 2 A ?_))
 exact cW (aT A A (by unfold scI;first|(rw[if_pos I,U,show i=cs.length by omega,take_length];done)|rw[if_neg (by simp_all)]))
 refine bG 1 A (aR A (cF 1 A ?_))
 refine cW (cK ?_)
 exact aT A A (by unfold scI;first|(rw[if_pos I,U,show i=cs.length by omega,take_length];done)|rw[if_neg (by simp_all)])
noncomputable def crB (d:Dev) (pl:List Int) (cs:List Cn) (ws:List Int):Bool:=wsB d ws&&decide ((ws.length:Int)<scI d pl cs ws)
theorem Jq (d:Dev) (pl:List Int) (cs:List Cn) (ws:List Int):0≤scI d pl cs ws∧scI d pl cs ws≤cs.length:=by
  unfold scI
  have:=rF d pl ws cs
  split<;>omega
theorem pC (d:Dev) (pl:List Int) (B:Value) (cs:List Cn) (D:Value) (ws:List Int) (E:Value) (w:World) (G:RdsW w B 1 pl.length (pl.map (Value.int .i64))) (J:pl.length≤64) (X:RdsCn w D cs) (K:cs.length≤100000) (M:∀c∈cs,CnB c) (e:RdsW w E 1 ws.length (ws.map (Value.int .i64))) (U:ws.length≤1000000) :
   Calls Tryz.prog 6 #[.agg #[.int .i64 d.W,.int .i64 d.H,.int .i64 d.T,.int .i64 d.R],B,D,E] w (Ans w (.bool (crB d pl cs ws))):=by
 have Y:=Jq d pl cs ws
 refine aY (N:=22) (args:=[.agg #[jI d.W,jI d.H,jI d.T,jI d.R],B,D,E]) Tryz.func6 A A (dW ?_)
 refine cU A (cE A A) fun b1=>go ?_
 refine cM A (aF A A (fun w h=>aI (uP d ws _ w (e.below h.bel) O))) (bD (fun Z=>go ?_) (fun Z=>go ?_))
 refine cM A (aF A A (fun w h=>aI (jS d pl _ cs _ ws _ w (G.below h.bel) J (X.below h.bel) K M (e.below h.bel) U))) (go ?_)
 refine fJ A A A A A A (fun h3=>go ?_) (fun h3=>go ?_)
 exact aT A A (by unfold crB;simp_all)
 exact aT A A (by unfold crB;simp_all)
 exact aT A A (by unfold crB;simp_all)
open Go.RowKit
theorem Jh (d:Dev) (t dir s:Int) : -1≤tileStepI d t dir s∧tileStepI d t dir s≤1000:=by
  unfold tileStepI
  split
  · rename_i h
    obtain⟨ht, -, -⟩:=h
    obtain⟨hv,t0,t1⟩:=(fC _ _).1 ht
    obtain⟨⟨a1,a2⟩,⟨b1,b2⟩, -, -⟩:=(dI d).1 hv
    unfold stepI
    split
    · rename_i h2
      obtain⟨x0,x1⟩:=(dA _ _ _).1 h2.1
      obtain⟨y0,y1⟩:=(dA _ _ _).1 h2.2
      have m0:0≤(t / d.W+dY dir s)*d.W:=Int.mul_nonneg y0 (by omega)
      have m1:(t / d.W+dY dir s)*d.W≤6*6:=Int.mul_le_mul (by omega) (by omega) (by omega) (by omega)
      omega
    · omega
  · omega
theorem oV (d:Dev) (n:Int) (w:World)  :
   Calls Tryz.prog 102 #[.agg #[.int .i64 d.W,.int .i64 d.H,.int .i64 d.T,.int .i64 d.R],.int .i64 n] w (Ret w (fun u_ B=>∃zs:List Int,B=[rI9 3 u_ zs]∧zs.length≤2∧∀y∈zs, -1≤y∧y≤1000)):=by
 refine aY (N:=40) (args:=[.agg #[jI d.W,jI d.H,jI d.T,jI d.R],jI n]) Tryz.func102 A A (dW ?_)
 refine cU A (cE A A) ?_
 intro b1
 refine bG 1 A (dW ?_)
 refine cH A (bU (s:=1) A z8 A) ?_
 intro g2
 refine bG 1 A (kE (aN A (aP (cs:=[jI d.W,jI d.H,jI d.T,jI d.R]) A A A A A (aM 1 A 0 A)) (aS 1 A ?_)))
 refine cM A (aF A A (fun w X=>aI (jT d _ w))) (bD (fun h3=>?_) (fun h3=>?_))
 obtain⟨G,n0,n1,U,a0⟩:=uU h3
 obtain⟨p0,p1,p2,p3,p4⟩:=iE G n0 n1
 obtain⟨m1,m2⟩:=eM G
 obtain⟨g0,g1,g2,g3⟩:=kS G U p3
 obtain⟨-, -,⟨l1,l2⟩, -⟩:=(dI d).1 G
 obtain⟨q1,q2⟩:=fR G
 refine bG 1 A (aV A (eC (dW (aN A (aP (cs:=[jI d.W,jI d.H,jI d.T,jI d.R]) A A A A A (aM 1 A 0 A)) (aS 1 A ?_)))))
 refine cM A (aF A A (fun w X=>aI (mY d _ G n0 O U w))) (bG 5 A (aG (cF 1 A (bS ?_))))
 refine fP (α:=Nat) (β:=Value) (γ:=List Int) [0,1,2,4,6,7,13] A (fun i u zs=>[rI9 3 u zs,boxE b1 #[jI d.W,jI d.H,jI d.T,jI d.R] 25]) (fun i u zs=>[(5,u),(8,jI ((i:Int)+1))]) (fun i u zs=>i≤2∧zs.length=i∧∀y∈zs, -1≤y∧y≤1000) (fun i u zs=>2-i) 0 _ [] ⟨O,A,fun y J=>by cases J⟩ (bV A) (cZ A) ?_
 intro i u zs Y
 obtain⟨hi,a1,K⟩:=Y
 refine aG (aG (cN 2 A (aN A (fT A A A AE) (aN A (eY A A A) ?_))))
 refine iA A A A A A A (fun h5=>?_) (fun h5=>?_)
 refine dL (aR A (eC (jR ?_)))
 refine eI A 10 [0,1,2,3,4,5,6,7,8,9] (List.take 10 _) (List.drop 10 _) [[],[],[],[],[3],[2,4],[],[],[1,5,6,7],[8]] [28,29,30,31,32,33,34,35,36,37] (fun i_ a2 D B=>match i_ with|0=>D=u∧B=[]|1=>D=.agg #[jI d.W,jI d.H,jI d.T,jI d.R]∧B=[]|2=>D=jI n∧B=[]|3=>D=.agg #[jI d.W,jI d.H,jI d.T,jI d.R]∧B=[]|4=>D=jI (perI d)∧B=[]|5=>D=jI (n / (perI d))∧B=[]|6=>D=jI ((n % perI d-7) / d.T)∧B=[]|7=>D=jI ((i:Int)+1)∧B=[]|8=>D=jI (tileStepI d (n / (perI d)) ((n % perI d-7) / d.T) ((i:Int)+1))∧B=[]|9=>IsRow 3 1 1 (mI [tileStepI d (n / (perI d)) ((n % perI d-7) / d.T) ((i:Int)+1)]) D B|_=>True) (take_append_drop 10 _).symm F F A A ?_ ?_
 refine⟨?_,?_,?_,?_,?_,?_,?_,?_,?_,?_,trivial⟩
 intro vf E e
 exact fG A (aD [5] A) (aK (aU A))
 intro vf E e
 exact eH A (aD [2] A) (aK (aP (cs:=[jI d.W,jI d.H,jI d.T,jI d.R]) A A A A A (aM 1 A 0 A)))
 intro vf E e
 exact fG A (aD [1] A) (aK (aU A))
 intro vf E e
 exact eH A (aD [2] A) (aK (aP (cs:=[jI d.W,jI d.H,jI d.T,jI d.R]) A A A A A (aM 1 A 0 A)))
 intro vf E e
 have e3:=e 3 V
 exact eH A (aX 31 e3.1 (aA _)) (aF A A (fun w X=>aI (eW d G w)))
 intro vf E e
 have e2:=e 2 V
 have e4:=e 4 V
 exact fG A (aX 30 e2.1 (aX 32 e4.1 (aA _))) (aK (gD A A A AH))
 intro vf E e
 exact fG A (aD [6] A) (aK (aU A))
 intro vf E e
 exact fG A (aD [8] A) (aK (aU A))
 intro vf E e
 have e1:=e 1 V
 have e5:=e 5 V
 have e6:=e 6 V
 have e7:=e 7 V
 exact eH A (aX 29 e1.1 (aX 33 e5.1 (aX 34 e6.1 (aX 35 e7.1 (aA _))))) (aF A A (fun w X=>aI (iC d _ _ _ w)))
 intro vf E e
 have e8:=e 8 V
 exact eH A (aX 36 e8.1 (aA _)) (aH (z:=jI 0) (s:=1) (cs:=(mI [tileStepI d (n / (perI d)) ((n % perI d-7) / d.T) ((i:Int)+1)])) A z8 A V A F A)
 intro vf E e
 have e0:=e 0 V
 obtain⟨g6,M,Z⟩:=e 9 V
 have q0:=e 0 V
 have q1:=e 1 V
 have q2:=e 2 V
 have q3:=e 3 V
 have q4:=e 4 V
 have q5:=e 5 V
 have q6:=e 6 V
 have U:=e 7 V
 have q8:=e 8 V
 refine cL (bE [25,13,8,7,6,5,4,2,1,0] _ (aX 28 e0.1 (aX 37 M (aA _))) A) (by simp only[Z,M,q0.2,q1.2,q2.2,q3.2,q4.2,q5.2,q6.2,U.2,q8.2,fS]<;>rfl) ?_
 simp only[drop_succ_cons,drop_zero]
 refine bT (i:=1) (z:=jI 0) (bytes:=8) A A A A z8 F A A A A (aB 0 A) (bI _) AD (bK zs ([tileStepI d (n / (perI d)) ((n % perI d-7) / d.T) ((i:Int)+1)])) (cB zs ([tileStepI d (n / (perI d)) ((n % perI d-7) / d.T) ((i:Int)+1)])) (fun _=>A) ?_
 intro v7
 refine eS 1 A (eB (cN 1 A (aN A (eY A A A) (eS 1 A ?_))))
 exact aQ (i+1) v7 (zs++([tileStepI d (n / (perI d)) ((n % perI d-7) / d.T) ((i:Int)+1)])) ⟨O,by rw[length_append,length_singleton];omega,fun y J=>(List.mem_append.1 J).elim (K y) (fun h=>by rw[mem_singleton] at h;subst h;exact Jh _ _ _ _)⟩ O (bV rfl) (eA [1,0] rfl)
 refine dL (aV A ?_)
 refine bW (fM ?_)
 refine aO (bB (cF 2 A ?_))
 exact cW (bM A A (eA [0] A) ⟨zs,A,O,K⟩)
 refine bG 1 A (aR A (cF 2 A ?_))
 refine cW (cK ?_)
 exact bM A A (eA [0] A) ⟨[],A,V,fun y J=>by cases J⟩
theorem sH (d:Dev) (e:Bool) (x:Int) (w:World) (h:devB d=true) (hx : -1000≤x∧x≤1000) :
   Calls Tryz.prog 80 #[.agg #[.int .i64 d.W,.int .i64 d.H,.int .i64 d.T,.int .i64 d.R],.bool e,.int .i64 x] w (Ret w (fun u_ p_=>∃zs:List Int,p_=[rI9 3 u_ zs]∧zs.length≤10000)):=by
 obtain⟨a3,a4⟩:=eM h
 obtain⟨q1,q2⟩:=fR h
 obtain⟨⟨a1,a2⟩,⟨b1,b2⟩, -, -⟩:=(dI d).1 h
 refine aY (N:=66) (args:=[.agg #[jI d.W,jI d.H,jI d.T,jI d.R],.bool e,jI x]) Tryz.func80 A A (dW ?_)
 refine cU A (cE A A) ?_
 intro b1
 refine bG 1 A (dW ?_)
 refine cH A (bU (s:=1) A z8 A) ?_
 intro g2
 refine bG 1 A (aG (cF 1 A (bS ?_)))
 refine fP (α:=Nat) (β:=Value) (γ:=List Int) [0,1,2,3,6] A (fun i u zs=>[rI9 3 u zs,boxE b1 #[jI d.W,jI d.H,jI d.T,jI d.R] 25]) (fun i u zs=>[(7,u),(8,jI (i:Int))]) (fun i u zs=>i≤(allI d).toNat∧zs.length≤i) (fun i u zs=>(allI d).toNat-i) 0 _ [] ⟨Nat.zero_le _,Nat.le_refl _⟩ (bV A) (cZ A) ?_
 intro i u zs B
 obtain⟨hi,a5⟩:=B
 refine aG (aG (cN 1 A (aN A (aP (cs:=[jI d.W,jI d.H,jI d.T,jI d.R]) A A A A A (aM 1 A 0 A)) ?_)))
 refine cM A (aF A A (fun w hm=>aI (eX d h w))) (aW A A A A A A (fun h4=>?_) (fun h4=>?_))
 refine dL (aR A (eC (jR (dW (aN A (aP (cs:=[jI d.W,jI d.H,jI d.T,jI d.R]) A A A A A (aM 1 A 0 A)) (aS 1 A ?_))))))
 refine fF A A A (aF A A (fun w hm=>oV d (i:Int) w)) ?_
 intro v5 p6 R7
 obtain⟨ys,rfl,a6,D⟩:=R7
 refine bG 1 A (aG (aG (cN 1 A (aN A (eV A A A (aB 0 A)) ?_))))
 refine bZ A A A A A A (fun h8=>?_) (fun h8=>?_)
 refine dL (aR A ?_)
 refine bW (dB ?_)
 refine aO (bB (cN 1 A (aN A (eY A A A) (eS 1 A ?_))))
 exact aQ (i+1) u zs ⟨O,by first|omega|(rw[length_append,length_singleton];omega)⟩ O (bV A) (eA [1,0] A)
 refine dL (aV A (eC (aG (cN 1 A (aN A (aP (cs:=[jI d.W,jI d.H,jI d.T,jI d.R]) A A A A A (aM 2 A 0 A)) ?_)))))
 refine cM A (aF A A (fun w hm=>aI (eW d h w))) ?_
 have a7:0≤(i:Int) / perI d:=Int.ediv_nonneg O O
 have a8:(i:Int) / perI d≤(i:Int):=Int.ediv_le_self _ O
 refine aN A (gD A A A AH) ?_
 refine bG 1 A (aG (cN 2 A (aN A (eV A A A (aB 0 A)) (aN A (nK A A A) (aN A (cV 1 A A A A (aB 0 A)) ?_)))))
 obtain⟨a9,aa⟩:=D (ys.getD (((ys.length:Int)-1).toNat) 0) (dV O)
 refine aN A (lP A A A (aB 0 A)) (bG 1 A (aG (cN 1 A (aN A (fY 0 A A A) (aN A (bJ A A A (bA 2 A A)) (aN A (fT A A A AE) (eS 1 A ?_)))))))
 refine bB (aG (cN 1 A (aN A (fY 0 A A A) (aN A (bJ A A A (bA 2 A A)) (aN A (xT A A A O) (bG 1 A (kE ?_)))))))
 refine aS 1 A (bD (fun h9=>?_) (fun h9=>?_))
 refine dL (aR A (aG (cN 1 A (aN A (fY 0 A A A) (aN A (bJ A A A (bA 2 A A)) ?_)))))
 refine aN A (gD A A A AH) ?_
 refine bG 1 A (cN 1 A (aN A (fY 0 A A A) (aN A (bJ A A A (bA 2 A A)) (aN A (xU A A A O) (bG 1 A (aG ?_))))))
 refine cN 2 A ?_
 refine iA A A A A A A (fun E=>?_) (fun E=>?_)
 refine aS 2 A (iA A A A A A A (fun G=>?_) (fun G=>?_))
 refine aN A (kL (m:=true) (n:=true) A Tryz.underlying4 A A) (dL (jQ A (eB (cN 1 A (aN A (eY A A A) (eS 1 A ?_))))))
 exact aQ (i+1) u zs ⟨O,by first|omega|(rw[length_append,length_singleton];omega)⟩ O (bV A) (eA [1,0] A)
 refine aN A (kL (m:=true) (n:=false) A Tryz.underlying4 A A) (dL (aR A (cN 2 A ?_)))
 refine cH A (aH (z:=jI 0) (s:=1) (cs:=(mI [(i:Int)])) A z8 A V A F A) ?_
 intro ab
 refine bT (i:=2) (z:=jI 0) (bytes:=8) A A A A z8 F A A A A (aB 0 A) (bI _) AD (bK zs ([(i:Int)])) (cB zs ([(i:Int)])) (fun _=>A) ?_
 intro J
 refine eS 1 A (eB (cN 1 A (aN A (eY A A A) (eS 1 A ?_))))
 exact aQ (i+1) J (zs++([(i:Int)])) ⟨O,by first|omega|(rw[length_append,length_singleton];omega)⟩ O (bV A) (eA [2,0] A)
 refine aS 2 A (iA A A A A A A (fun K=>?_) (fun K=>?_))
 refine aN A (kL (m:=false) (n:=true) A Tryz.underlying4 A A) (dL (aR A (cN 2 A ?_)))
 refine cH A (aH (z:=jI 0) (s:=1) (cs:=(mI [(i:Int)])) A z8 A V A F A) ?_
 intro ac
 refine bT (i:=2) (z:=jI 0) (bytes:=8) A A A A z8 F A A A A (aB 0 A) (bI _) AD (bK zs ([(i:Int)])) (cB zs ([(i:Int)])) (fun _=>A) ?_
 intro M
 refine eS 1 A (eB (cN 1 A (aN A (eY A A A) (eS 1 A ?_))))
 exact aQ (i+1) M (zs++([(i:Int)])) ⟨O,by first|omega|(rw[length_append,length_singleton];omega)⟩ O (bV A) (eA [2,0] A)
 refine aN A (kL (m:=false) (n:=false) A Tryz.underlying4 A A) (dL (jQ A (eB (cN 1 A (aN A (eY A A A) (eS 1 A ?_))))))
 exact aQ (i+1) u zs ⟨O,by first|omega|(rw[length_append,length_singleton];omega)⟩ O (bV A) (eA [1,0] A)
 refine dL (aV A (eC (aG (cN 2 A ?_))))
 refine iA A A A A A A (fun U=>?_) (fun U=>?_)
 refine aS 2 A (iA A A A A A A (fun X=>?_) (fun X=>?_))
 refine aN A (kL (m:=true) (n:=true) A Tryz.underlying4 A A) (dL (jQ A (eB (cN 1 A (aN A (eY A A A) (eS 1 A ?_))))))
 exact aQ (i+1) u zs ⟨O,by first|omega|(rw[length_append,length_singleton];omega)⟩ O (bV A) (eA [1,0] A)
 refine aN A (kL (m:=true) (n:=false) A Tryz.underlying4 A A) (dL (aR A (cN 2 A ?_)))
 refine cH A (aH (z:=jI 0) (s:=1) (cs:=(mI [(i:Int)])) A z8 A V A F A) ?_
 intro ad
 refine bT (i:=2) (z:=jI 0) (bytes:=8) A A A A z8 F A A A A (aB 0 A) (bI _) AD (bK zs ([(i:Int)])) (cB zs ([(i:Int)])) (fun _=>A) ?_
 intro Y
 refine eS 1 A (eB (cN 1 A (aN A (eY A A A) (eS 1 A ?_))))
 exact aQ (i+1) Y (zs++([(i:Int)])) ⟨O,by first|omega|(rw[length_append,length_singleton];omega)⟩ O (bV A) (eA [2,0] A)
 refine aS 2 A (iA A A A A A A (fun Z=>?_) (fun Z=>?_))
 refine aN A (kL (m:=false) (n:=true) A Tryz.underlying4 A A) (dL (aR A (cN 2 A ?_)))
 refine cH A (aH (z:=jI 0) (s:=1) (cs:=(mI [(i:Int)])) A z8 A V A F A) ?_
 intro ae
 refine bT (i:=2) (z:=jI 0) (bytes:=8) A A A A z8 F A A A A (aB 0 A) (bI _) AD (bK zs ([(i:Int)])) (cB zs ([(i:Int)])) (fun _=>A) ?_
 intro a0
 refine eS 1 A (eB (cN 1 A (aN A (eY A A A) (eS 1 A ?_))))
 exact aQ (i+1) a0 (zs++([(i:Int)])) ⟨O,by first|omega|(rw[length_append,length_singleton];omega)⟩ O (bV A) (eA [2,0] A)
 refine aN A (kL (m:=false) (n:=false) A Tryz.underlying4 A A) (dL (jQ A (eB (cN 1 A (aN A (eY A A A) (eS 1 A ?_))))))
 exact aQ (i+1) u zs ⟨O,by first|omega|(rw[length_append,length_singleton];omega)⟩ O (bV A) (eA [1,0] A)
 refine dL (aV A ?_)
 refine bW (fM ?_)
 refine aO (bB (cF 2 A ?_))
 exact cW (bM A A (eA [0] A) ⟨zs,A,O⟩)
theorem pP (a b c:Int) (w:World)  :
   Calls Tryz.prog 58 #[.int .i64 a,.int .i64 b,.int .i64 c] w (Ans w (.bool (inR a b c))):=by
 refine aY (N:=15) (args:=[jI a,jI b,jI c]) Tryz.func58 A A (cF 1 A (aG (cN 2 A ?_)))
 refine eK A A A A A A (fun e=>go ?_) (fun e=>go ?_)
 refine iA A A A A A A (fun h=>go ?_) (fun h=>go ?_)
 exact aT A A (by first|(unfold inR;simp_all;done)|(unfold inR;simp_all;omega)|(unfold inR;simp;omega))
 exact aT A A (by first|(unfold inR;simp_all;done)|(unfold inR;simp_all;omega)|(unfold inR;simp;omega))
 exact aT A A (by first|(unfold inR;simp_all;done)|(unfold inR;simp_all;omega)|(unfold inR;simp;omega))
theorem pY (d:Dev) (x:Int) (w:World)  :
   Calls Tryz.prog 46 #[.agg #[.int .i64 d.W,.int .i64 d.H,.int .i64 d.T,.int .i64 d.R],.int .i64 x] w (Ret w (fun E G=>∃zs:List Int,G=[rI9 3 E zs]∧zs.length≤10000)):=by
 refine aY (N:=20) (args:=[.agg #[jI d.W,jI d.H,jI d.T,jI d.R],jI x]) Tryz.func46 A A (dW ?_)
 refine cU A (cE A A) ?_
 intro J
 refine bG 1 A (kE (aN A (aP (cs:=[jI d.W,jI d.H,jI d.T,jI d.R]) A A A A A (aM 0 A 0 A)) ?_))
 refine cM A (aF A A (fun w h=>aI (eT d w))) (bD (fun B=>?_) (fun B=>?_))
 obtain⟨⟨M,U⟩,⟨J,X⟩, -, -⟩:=(dI d).1 B
 refine aS 3 A (aN A (fY 0 A A A) (aN A (bJ A A A (bA 0 A A)) (aN A (nK A A A) ?_)))
 refine cM A (aF A A (fun w h=>aI (pP x 0 (d.W-2) w))) (bD (fun D=>?_) (fun D=>?_))
 obtain⟨Y,Z⟩:=(dA _ _ _).1 D
 refine bG 2 A (aV A (eC (dW (aN A (aP (cs:=[jI d.W,jI d.H,jI d.T,jI d.R]) A A A A A (aM 0 A 0 A)) (aS 1 A ?_)))))
 refine fF A A A (aF A A (fun w h=>sH d false x w I O)) ?_
 intro v4 p5 K
 obtain⟨zs,rfl,e⟩:=K
 refine bG 1 A ?_
 exact cW (bM A A (eA [0] A) ⟨zs,A,e⟩)
 refine bG 2 A (aR A (dW ?_))
 refine cH A (bU (s:=1) A z8 A) ?_
 intro g7
 refine bG 1 A ?_
 refine cW (cK ?_)
 exact bM A A (eA [0] A) ⟨[],A,V⟩
 refine bG 9 A (aR A (dW ?_))
 refine cH A (bU (s:=1) A z8 A) ?_
 intro g8
 refine bG 1 A ?_
 refine cW (cK ?_)
 exact bM A A (eA [0] A) ⟨[],A,V⟩
theorem tW (d:Dev) (x:Int) (w:World)  :
   Calls Tryz.prog 48 #[.agg #[.int .i64 d.W,.int .i64 d.H,.int .i64 d.T,.int .i64 d.R],.int .i64 x] w (Ret w (fun E G=>∃zs:List Int,G=[rI9 3 E zs]∧zs.length≤10000)):=by
 refine aY (N:=20) (args:=[.agg #[jI d.W,jI d.H,jI d.T,jI d.R],jI x]) Tryz.func48 A A (dW ?_)
 refine cU A (cE A A) ?_
 intro J
 refine bG 1 A (kE (aN A (aP (cs:=[jI d.W,jI d.H,jI d.T,jI d.R]) A A A A A (aM 0 A 0 A)) ?_))
 refine cM A (aF A A (fun w h=>aI (eT d w))) (bD (fun B=>?_) (fun B=>?_))
 obtain⟨⟨M,U⟩,⟨J,X⟩, -, -⟩:=(dI d).1 B
 refine aS 3 A (aN A (fY 1 A A A) (aN A (bJ A A A (bA 0 A A)) (aN A (nK A A A) ?_)))
 refine cM A (aF A A (fun w h=>aI (pP x 0 (d.H-2) w))) (bD (fun D=>?_) (fun D=>?_))
 obtain⟨Y,Z⟩:=(dA _ _ _).1 D
 refine bG 2 A (aV A (eC (dW (aN A (aP (cs:=[jI d.W,jI d.H,jI d.T,jI d.R]) A A A A A (aM 0 A 0 A)) (aS 1 A ?_)))))
 refine fF A A A (aF A A (fun w h=>sH d true x w I O)) ?_
 intro v4 p5 K
 obtain⟨zs,rfl,e⟩:=K
 refine bG 1 A ?_
 exact cW (bM A A (eA [0] A) ⟨zs,A,e⟩)
 refine bG 2 A (aR A (dW ?_))
 refine cH A (bU (s:=1) A z8 A) ?_
 intro g7
 refine bG 1 A ?_
 refine cW (cK ?_)
 exact bM A A (eA [0] A) ⟨[],A,V⟩
 refine bG 9 A (aR A (dW ?_))
 refine cH A (bU (s:=1) A z8 A) ?_
 intro g8
 refine bG 1 A ?_
 refine cW (cK ?_)
 exact bM A A (eA [0] A) ⟨[],A,V⟩
open Go.RowKit
def rnI (d:Dev):Int:=if devB d=true then allI d else 0
theorem Jv (d:Dev):0≤rnI d∧rnI d≤828:=by
  unfold rnI;split
  · rename_i h;obtain⟨a,b⟩:=eM h;omega
  · omega
theorem Cb (d:Dev) (w:World):Calls Tryz.prog 10 #[.agg #[.int .i64 d.W,.int .i64 d.H,.int .i64 d.T,.int .i64 d.R]] w (Ans w (.int .i64 (rnI d))):=by
  unfold rnI;split
  · rename_i h;exact eX d h w
  · rename_i h;exact mA d (by simpa using h) w
theorem Ci {w:World}{v:Value}{xs:List Int}(h:RdsW w v 1 xs.length (xs.map (Value.int .i64))) (e:0<xs.length):RdsW w (slV v (1:Int).toNat xs.length 1) 1 (xs.drop 1).length ((xs.drop 1).map (Value.int .i64)):=by
  have:=uF h (lo:=1) O (Nat.le_refl _)
  rw[length_drop,List.map_drop]
  rw[Nat.mul_one,Nat.mul_one,List.take_of_length_le (by rw[length_drop,length_map];exact Nat.le_refl _)] at this
  exact this
theorem Kz:CnB (Cn.mk 0 0 0 (.slice none 0 0) []):=⟨AI,AI,AI,fun k e=>by cases e⟩
theorem Cw (g:Nat) (a:Option Addr) (e h:Nat) (z:List Int) (w0:World) (l:List HP) (w:World) (aa:Mem w0 (curE g a e h::l) w) (hb:BRow .u8 w0 a e h z) :
   Calls Tryz.prog 43 #[.pointer (some ⟨g,0,none⟩)] w (fun e_ w_=>∃v_ E,e_=.returned v_∧(fun M E=>∃(d:Dev) (zs:List Int) (cs:List Cn) (G J K:Value) (ps:List HP),M=.tuple #[.agg #[.int .i64 d.W,.int .i64 d.H,.int .i64 d.T,.int .i64 d.R],G,K,J]∧E=bigE [curE g a e h,rI9 3 J zs,rS9 44 4 K cs cnC,bigE ps]∧(∀w,(bigE ps).holds w→KsR w cs)∧zs.length≤64∧(∀c∈cs,CnB c)∧cs.length≤200) v_ E∧Mem w0 (E::l) w_):=by
 refine gE (N:=70) (args:=[pI g]) Tryz.func43 A A aa (dW ?_)
 refine cU A (bY (z:=.agg #[jI 0,jI 0,jI 0,jI 0]) A A) ?_
 intro b1
 refine bG 3 A (aG (cN 1 A ?_))
 refine cR (R:=(fun M E=>∃(d:Dev) (ps:List HP) (ks zs:List Int) (cs:List Cn) (G K J:Value),M=.tuple #[.agg #[jI d.W,jI d.H,jI d.T,jI d.R],G,K,J]∧E=bigE [curE g a e h,rI9 3 G ks,rS9 44 4 K cs cnC,rI9 3 J zs,bigE ps]∧(∀w,(bigE ps).holds w→KsR w cs)∧ks.length≤64∧zs.length≤64∧cs.length≤132∧∀c∈cs,CnB c)) 1 A A A A A (fun l' w X=>vX g a e h z _ _ _ X hb) ?_
 intro v2 p3 R4
 obtain⟨d,Y,ks,zs,cs,G,K,J,rfl,rfl,a0,ba,bb,bc,a1⟩:=R4
 refine dO (l':=(boxE b1 #[jI 0,jI 0,jI 0,jI 0] 25::bigE [curE g a e h,rI9 3 G ks,rS9 44 4 K cs cnC,rI9 3 J zs,bigE Y]::l)) A ?_
 refine aS 5 A (cU A (bY (z:=.agg #[jI 0,jI 0,jI 0,jI 0]) A A) ?_)
 intro b5
 refine cA (cs':=#[jI d.W,jI d.H,jI d.T,jI d.R]) (i:=0) (off:=0) (us:=[jI d.W,jI d.H,jI d.T,jI d.R]) A A A A A A A (aC A (aC A (aC A (aC A bH)))) A A A (bG 3 A ?_)
 refine uY (α:=Dev×Value) (β:=Value×List Cn) (γ:=List Int) (δ:=List HP) (fun D U Z ps=>(curE g a e h::rS9 44 4 U.1 U.2 cnC::rI9 3 J Z::bigE ps::boxE b5 #[jI D.1.W,jI D.1.H,jI D.1.T,jI D.1.R] 25::boxE b1 #[jI 0,jI 0,jI 0,jI 0] 25::l)) (fun D U Z ps=>[(0,pI g),(2,pI b1),(3,.slice none 0 0),(4,.slice none 0 0),(5,.slice none 0 0),(6,pI b5),(7,D.2),(8,U.1),(9,J)]) (fun D U Z ps=>U.2.length≤133∧Z.length≤64∧(∀c∈U.2,CnB c)∧∀w,(bigE ps).holds w→KsR w U.2) ?_ ?_
 refine dW ?_
 refine kQ 3 [1,0,2] A A V ?_
 refine jZ (curE g a e h::rI9 3 G ks::rS9 44 4 K cs cnC::rI9 3 J zs::bigE Y::boxE b5 #[jI d.W,jI d.H,jI d.T,jI d.R] 25::boxE b1 #[jI 0,jI 0,jI 0,jI 0] 25::l) gN ?_
 refine aS 1 A (cR (R:=(fun M E=>(∃x_:Int,M=jI x_∧0≤x_∧x_<14)∧E=curE g a e h)) 0 A A A A A (fun l' w X=>dT g a e h z 14 _ _ _ X hb AE) ?_)
 intro v6 p7 R8
 obtain⟨⟨x8,rfl,bd,be⟩,rfl⟩:=R8
 refine dO (l':=(curE g a e h::rI9 3 G ks::rS9 44 4 K cs cnC::rI9 3 J zs::bigE Y::boxE b5 #[jI d.W,jI d.H,jI d.T,jI d.R] 25::boxE b1 #[jI 0,jI 0,jI 0,jI 0] 25::l)) A ?_
 refine dL (bS (dW ?_))
 refine bZ A A A A A A (fun h9=>?_) (fun h9=>?_)
 refine bG 1 A (aR A (cN 1 A ?_))
 refine cR (R:=(fun M E=>(∃d:Dev,M=.agg #[jI d.W,jI d.H,jI d.T,jI d.R])∧E=curE g a e h)) 0 A A A A A (fun l' w X=>Cy g a e h z _ _ _ X hb) ?_
 intro bf bg ab
 obtain⟨⟨B,rfl⟩,rfl⟩:=ab
 refine dO (l':=(curE g a e h::rI9 3 G ks::rS9 44 4 K cs cnC::rI9 3 J zs::bigE Y::boxE b5 #[jI d.W,jI d.H,jI d.T,jI d.R] 25::boxE b1 #[jI 0,jI 0,jI 0,jI 0] 25::l)) A ?_
 refine cA (cs':=#[jI B.W,jI B.H,jI B.T,jI B.R]) (i:=5) (off:=0) (us:=[jI B.W,jI B.H,jI B.T,jI B.R]) A A A A A A A (aC A (aC A (aC A (aC A bH)))) A A A (cP (cG ?_))
 exact iL (Dev.mk B.W B.H B.T B.R,G) (K,cs) zs Y ⟨by first|(show cs.length≤_;omega)|(show List.length (_++[_])≤_;rw[length_append,length_singleton];omega),by first|omega|(rw[length_set];omega),a1,a0⟩ (bV rfl) (.cons_cons _ (.cons _ (.refl _)))
 refine bG 1 A (aV A (dW ?_))
 refine bZ A A A A A A (fun ac=>?_) (fun ac=>?_)
 refine bG 1 A (aR A (cN 2 A ?_))
 refine cR (R:=(fun M E=>(∃x_:Int,M=jI x_∧0≤x_∧x_<6)∧E=curE g a e h)) 0 A A A A A (fun l' w X=>dT g a e h z 6 _ _ _ X hb AE) ?_
 intro bh bi ad
 obtain⟨⟨a6,rfl,au,aw⟩,rfl⟩:=ad
 refine dO (l':=(curE g a e h::rI9 3 G ks::rS9 44 4 K cs cnC::rI9 3 J zs::bigE Y::boxE b5 #[jI d.W,jI d.H,jI d.T,jI d.R] 25::boxE b1 #[jI 0,jI 0,jI 0,jI 0] 25::l)) A ?_
 refine aN A (nK A A A) (cH A (aH (z:=jI 0) (s:=1) (cs:=(mI [a6-1])) A z8 A V A F A) ?_)
 intro bj
 refine bT (i:=2) (z:=jI 0) (bytes:=8) A A A A z8 F A A A A (aB 0 A) (bI _) AD (bK ks ([a6-1])) (cB ks ([a6-1])) (fun _=>A) ?_
 intro ae
 refine eS 1 A (cG ?_)
 exact iL (Dev.mk d.W d.H d.T d.R,ae) (K,cs) zs Y ⟨by first|(show cs.length≤_;omega)|(show List.length (_++[_])≤_;rw[length_append,length_singleton];omega),by first|omega|(rw[length_set];omega),a1,a0⟩ (bV rfl) (.cons _ (.cons_cons _ (.cons _ (.refl _))))
 refine bG 1 A (aV A (dW ?_))
 refine bZ A A A A A A (fun af=>?_) (fun af=>?_)
 refine bG 1 A (aR A (aG (cN 1 A (aN A (eV A A A (aB 3 A)) ?_))))
 refine fJ A A A A A A (fun ag=>?_) (fun ag=>?_)
 refine dL (aR A (cN 3 A (aN A (eV A A A (aB 3 A)) ?_)))
 refine cR (R:=(fun M E=>(∃x_:Int,M=jI x_∧0≤x_∧x_<(zs.length:Int))∧E=curE g a e h)) 0 A A A A A (fun l' w X=>dT g a e h z (zs.length:Int) _ _ _ X hb AE) ?_
 intro bk bl ah
 obtain⟨⟨a7,rfl,ax,ay⟩,rfl⟩:=ah
 refine dO (l':=(curE g a e h::rI9 3 G ks::rS9 44 4 K cs cnC::rI9 3 J zs::bigE Y::boxE b5 #[jI d.W,jI d.H,jI d.T,jI d.R] 25::boxE b1 #[jI 0,jI 0,jI 0,jI 0] 25::l)) A ?_
 refine aS 1 A (cR (R:=(fun M E=>(∃x:Int,M=jI x∧-9223372036854775808≤x∧x≤9223372036854775807)∧E=curE g a e h)) 0 A A A A A (fun l' w X=>kO g a e h z 20 _ _ _ X hb O) ?_)
 intro bm bn ai
 obtain⟨⟨a8,rfl,az,b0⟩,rfl⟩:=ai
 refine dO (l':=(curE g a e h::rI9 3 G ks::rS9 44 4 K cs cnC::rI9 3 J zs::bigE Y::boxE b5 #[jI d.W,jI d.H,jI d.T,jI d.R] 25::boxE b1 #[jI 0,jI 0,jI 0,jI 0] 25::l)) A ?_
 refine aN A (cV 1 A A A A (aB 3 A)) (dS (i:=3) (n':=(zs.set (a7.toNat) a8).length) (xs':=(mI (zs.set (a7.toNat) a8))) A A A A A A A A AA List.length_set.symm (eP _ _ _) A ?_)
 refine cP (cG ?_)
 exact iL (Dev.mk d.W d.H d.T d.R,G) (K,cs) (zs.set (a7.toNat) a8) Y ⟨by first|(show cs.length≤_;omega)|(show List.length (_++[_])≤_;rw[length_append,length_singleton];omega),by first|omega|(rw[length_set];omega),a1,a0⟩ (bV rfl) (.cons_cons _ (.cons _ (.refl _)))
 refine dL (jQ A (cG ?_))
 exact iL (Dev.mk d.W d.H d.T d.R,G) (K,cs) zs Y ⟨by first|(show cs.length≤_;omega)|(show List.length (_++[_])≤_;rw[length_append,length_singleton];omega),by first|omega|(rw[length_set];omega),a1,a0⟩ (bV rfl) (.cons_cons _ (.cons _ (.refl _)))
 refine bG 1 A (aV A (dW ?_))
 refine bZ A A A A A A (fun aj=>?_) (fun aj=>?_)
 refine bG 1 A (aR A (cN 2 A ?_))
 refine cR (R:=(fun M E=>(∃x:Int,M=jI x∧-9223372036854775808≤x∧x≤9223372036854775807)∧E=curE g a e h)) 0 A A A A A (fun l' w X=>kO g a e h z 4 _ _ _ X hb O) ?_
 intro bo bp ak
 obtain⟨⟨a2,rfl,b2,b3⟩,rfl⟩:=ak
 refine dO (l':=(curE g a e h::rI9 3 G ks::rS9 44 4 K cs cnC::rI9 3 J zs::bigE Y::boxE b5 #[jI d.W,jI d.H,jI d.T,jI d.R] 25::boxE b1 #[jI 0,jI 0,jI 0,jI 0] 25::l)) A ?_
 refine aS 1 A (cR (R:=(fun M E=>(∃x_:Int,M=jI x_∧0≤x_∧x_<7)∧E=curE g a e h)) 0 A A A A A (fun l' w X=>dT g a e h z 7 _ _ _ X hb AE) ?_)
 intro bq br al
 obtain⟨⟨a3,rfl,b4,b6⟩,rfl⟩:=al
 refine dO (l':=(curE g a e h::rI9 3 G ks::rS9 44 4 K cs cnC::rI9 3 J zs::bigE Y::boxE b5 #[jI d.W,jI d.H,jI d.T,jI d.R] 25::boxE b1 #[jI 0,jI 0,jI 0,jI 0] 25::l)) A ?_
 refine aN A (nK A A A) (aN A (dG (cs:=#[jI a2,jI (a3-1)]) A A A) (aS 1 A ?_))
 refine cR (R:=(fun M E=>(∃x:Int,M=jI x∧-9223372036854775808≤x∧x≤9223372036854775807)∧E=curE g a e h)) 0 A A A A A (fun l' w X=>kO g a e h z 3 _ _ _ X hb O) ?_
 intro bs bt am
 obtain⟨⟨a4,rfl,b7,b8⟩,rfl⟩:=am
 refine dO (l':=(curE g a e h::rI9 3 G ks::rS9 44 4 K cs cnC::rI9 3 J zs::bigE Y::boxE b5 #[jI d.W,jI d.H,jI d.T,jI d.R] 25::boxE b1 #[jI 0,jI 0,jI 0,jI 0] 25::l)) A ?_
 refine aN A (dG (cs:=#[jI a4,jI 0]) A A A) (cH A (aH (z:=.agg #[jI 0,jI 0]) (s:=2) (cs:=(mI [a4,0])) A Tryz.underlying42 A V A F A) ?_)
 intro a5
 refine aN A (dG (cs:=#[jI 0,jI a2,jI (a3-1),.slice (some ⟨a5,0,none⟩) 1 1]) A A A) (cH A (aH (z:=.agg #[jI 0,jI 0,jI 0,.slice none 0 0]) (s:=4) (cs:=[jI 0,jI a2,jI (a3-1),.slice (some ⟨a5,0,none⟩) 1 1]) A Tryz.underlying27 A V A F A) ?_)
 intro bu
 refine bT (i:=4) (z:=.agg #[jI 0,jI 0,jI 0,.slice none 0 0]) (bytes:=48) A A A A Tryz.underlying27 F A A A A (aB 0 A) AK AC (bK cs [(Cn.mk 0 a2 (a3-1) (.slice (some ⟨a5,0,none⟩) 1 1) [Pn.mk a4 0])]) (dP cnC cs (Cn.mk 0 a2 (a3-1) (.slice (some ⟨a5,0,none⟩) 1 1) [Pn.mk a4 0]) _ A) (fun _=>A) ?_
 intro an
 refine eS 1 A (cG ?_)
 refine bN 9 [8,7,5,4,2,1,6] A A V ?_
 refine dN 2 A ?_
 refine bN 6 [5,4,0,3,2,1] A A V ?_
 exact iL (Dev.mk d.W d.H d.T d.R,G) (an,cs++[(Cn.mk 0 a2 (a3-1) (.slice (some ⟨a5,0,none⟩) 1 1) [Pn.mk a4 0])]) zs [bigE Y,rowE 41 2 (.slice (some ⟨a5,0,none⟩) 1 1) 1 (mI [a4,0])] ⟨by first|(show cs.length≤_;omega)|(show List.length (_++[_])≤_;rw[length_append,length_singleton];omega),by first|omega|(rw[length_set];omega),Ew a1 (Ev (by dsimp only;omega) (by dsimp only;omega) rfl AI),fun w hw=>(a0 w (bF hw eG)).app (cI (bF hw (fW eG)))⟩ (bV rfl) (.refl _)
 refine bG 1 A (aV A (dW ?_))
 refine bZ A A A A A A (fun ao=>?_) (fun ao=>?_)
 refine bG 1 A (aR A (cN 1 A (aN A (dG (cs:=#[jI 0,jI 0,jI 0,.slice none 0 0]) A A A) ?_)))
 refine cH A (aH (z:=.agg #[jI 0,jI 0,jI 0,.slice none 0 0]) (s:=4) (cs:=[jI 0,jI 0,jI 0,.slice none 0 0]) A Tryz.underlying27 A V A F A) ?_
 intro bv
 refine bT (i:=3) (z:=.agg #[jI 0,jI 0,jI 0,.slice none 0 0]) (bytes:=48) A A A A Tryz.underlying27 F A A A A (aB 0 A) AK AC (bK cs [(Cn.mk 0 0 0 (.slice none 0 0) [])]) (dP cnC cs (Cn.mk 0 0 0 (.slice none 0 0) []) _ A) (fun _=>A) ?_
 intro ap
 refine eS 1 A (cG ?_)
 exact iL (Dev.mk d.W d.H d.T d.R,G) (ap,cs++[(Cn.mk 0 0 0 (.slice none 0 0) [])]) zs Y ⟨by first|(show cs.length≤_;omega)|(show List.length (_++[_])≤_;rw[length_append,length_singleton];omega),by first|omega|(rw[length_set];omega),Ew a1 Kz,fun w hw=>(a0 w hw).app (tG w 2)⟩ (bV rfl) (.cons _ (.cons_cons _ (.cons _ (.refl _))))
 refine bG 1 A (jQ A (cG ?_))
 exact iL (Dev.mk d.W d.H d.T d.R,G) (K,cs) zs Y ⟨by first|(show cs.length≤_;omega)|(show List.length (_++[_])≤_;rw[length_append,length_singleton];omega),by first|omega|(rw[length_set];omega),a1,a0⟩ (bV rfl) (.cons_cons _ (.cons _ (.refl _)))
 intro D U Z ps a9
 obtain⟨bw,b9,aq,ar⟩:=a9
 refine dW (aN A (aP (cs:=[jI D.1.W,jI D.1.H,jI D.1.T,jI D.1.R]) A A A A A (aM 4 A 0 A)) (aS 3 A ?_))
 refine cA (cs':=#[jI D.1.W,jI D.1.H,jI D.1.T,jI D.1.R]) (i:=5) (off:=0) (us:=[jI D.1.W,jI D.1.H,jI D.1.T,jI D.1.R]) A A A A A A A (aC A (aC A (aC A (aC A bH)))) A A A (bG 3 A ?_)
 refine cW (bN 6 [5,4,3,1,2,0] A A V ?_)
 refine dN 4 A ?_
 exact fU (rs:=[.cell 2 25,.tmp 3,.tmp 4,.tmp 5]) (vs:=[.agg #[jI D.1.W,jI D.1.H,jI D.1.T,jI D.1.R],D.2,U.1,J]) A ⟨⟨b1,0,[jI D.1.W,jI D.1.H,jI D.1.T,jI D.1.R],A,A,F,F,aM 2 A 0 A⟩,A,A,A,trivial⟩ A (fun w X=>⟨_,bigE [curE g a e h,rI9 3 J Z,rS9 44 4 U.1 U.2 cnC,bigE ps],A,⟨D.1,Z,U.2,D.2,J,U.1,ps,A,A,ar,O,aq,O⟩,X.sub (.cons_cons _ (pR 2 A))⟩)
theorem Ak (g:Nat) (a:Option Addr) (e h:Nat) (z:List Int) (w0:World) (l:List HP) (w:World) (ax:Mem w0 (curE g a e h::l) w) (hb:BRow .u8 w0 a e h z) :
   Calls Tryz.prog 17 #[.pointer (some ⟨g,0,none⟩)] w (fun e_ w_=>∃v_ E,e_=.returned v_∧(fun J E=>∃(d:Dev) (zs ws:List Int) (cs:List Cn) (zv cv wv:Value) (ps:List HP),J=.tuple #[.agg #[.int .i64 d.W,.int .i64 d.H,.int .i64 d.T,.int .i64 d.R],zv,cv,wv]∧E=bigE [curE g a e h,bigE ps]∧(∀w,(bigE ps).holds w→RdsW w zv 1 zs.length (zs.map (Value.int .i64))∧RdsCn w cv cs∧RdsW w wv 1 ws.length (ws.map (Value.int .i64)))∧zs.length≤64∧(∀c∈cs,CnB c)∧cs.length≤200∧ws.length≤20000) v_ E∧Mem w0 (E::l) w_):=by
 refine gE (N:=58) (args:=[pI g]) Tryz.func17 A A ax (dW ?_)
 refine cU A (bY (z:=.agg #[jI 0,jI 0,jI 0,jI 0]) A A) ?_
 intro b1
 refine bG 3 A (aG (cN 1 A ?_))
 refine cR (R:=(fun J E=>∃(d:Dev) (zs:List Int) (cs:List Cn) (kv zv cv:Value) (ps:List HP),J=.tuple #[.agg #[jI d.W,jI d.H,jI d.T,jI d.R],kv,cv,zv]∧E=bigE [curE g a e h,rI9 3 zv zs,rS9 44 4 cv cs cnC,bigE ps]∧(∀w,(bigE ps).holds w→KsR w cs)∧zs.length≤64∧(∀c∈cs,CnB c)∧cs.length≤200)) 1 A A A A A (fun l' w hm=>Cw g a e h z _ _ _ hm hb) ?_
 intro v2 p3 R4
 obtain⟨d,zs,cs,kv,zv,cv,dp,rfl,rfl,ay,az,b0,b2⟩:=R4
 refine dO (l':=(boxE b1 #[jI 0,jI 0,jI 0,jI 0] 25::bigE [curE g a e h,rI9 3 zv zs,rS9 44 4 cv cs cnC,bigE dp]::l)) A ?_
 refine aS 5 A (cU A (bY (z:=.agg #[jI 0,jI 0,jI 0,jI 0]) A A) ?_)
 intro b5
 refine cA (cs':=#[jI d.W,jI d.H,jI d.T,jI d.R]) (i:=0) (off:=0) (us:=[jI d.W,jI d.H,jI d.T,jI d.R]) A A A A A A A (aC A (aC A (aC A (aC A bH)))) A A A (bG 3 A ?_)
 refine uY (α:=Dev) (β:=Value×List Int) (γ:=Value×List Cn) (δ:=List HP) (fun D Z U ps=>(curE g a e h::rI9 3 Z.1 Z.2::rS9 44 4 U.1 U.2 cnC::bigE ps::boxE b5 #[jI D.W,jI D.H,jI D.T,jI D.R] 25::boxE b1 #[jI 0,jI 0,jI 0,jI 0] 25::l)) (fun D Z U ps=>[(0,pI g),(2,pI b1),(3,.slice none 0 0),(4,.slice none 0 0),(5,.slice none 0 0),(6,pI b5),(8,U.1),(9,Z.1)]) (fun D Z U ps=>Z.2.length≤64∧(∀c∈U.2,CnB c)∧U.2.length≤200∧∀w,(bigE ps).holds w→KsR w U.2) ?_ ?_
 refine dW ?_
 refine kQ 3 [1,0,2] A A V ?_
 refine jZ (curE g a e h::rI9 3 zv zs::rS9 44 4 cv cs cnC::bigE dp::boxE b5 #[jI d.W,jI d.H,jI d.T,jI d.R] 25::boxE b1 #[jI 0,jI 0,jI 0,jI 0] 25::l) gN ?_
 refine aS 1 A (cR (R:=(fun J E=>(∃b:Bool,J=.bool b)∧E=curE g a e h)) 0 A A A A A (fun l' w hm=>qL hm hb (3) O O) ?_)
 intro v6 p7 R8
 obtain⟨⟨x8,rfl⟩,rfl⟩:=R8
 refine dO (l':=(curE g a e h::rI9 3 zv zs::rS9 44 4 cv cs cnC::bigE dp::boxE b5 #[jI d.W,jI d.H,jI d.T,jI d.R] 25::boxE b1 #[jI 0,jI 0,jI 0,jI 0] 25::l)) A ?_
 refine bD (fun h9=>?_) (fun h9=>?_)
 refine dL (aR A (cN 1 A ?_))
 refine cR (R:=(fun J E=>∃(d:Dev) (zs:List Int) (cs:List Cn) (zv cv:Value) (ps:List HP),J=.tuple #[.agg #[jI d.W,jI d.H,jI d.T,jI d.R],zv,cv]∧E=bigE [curE g a e h,rI9 3 zv zs,rS9 44 4 cv cs cnC,bigE ps]∧(∀w,(bigE ps).holds w→KsR w cs)∧zs.length≤64∧(∀c∈cs,CnB c)∧cs.length≤200)) 0 A A A A A (fun l' w hm=>yK g a e h z _ _ _ hm hb) ?_
 intro bs bt b3
 obtain⟨d2,a8,a9,aa,ab,ac,rfl,rfl,ae,af,ag,ah⟩:=b3
 refine dO (l':=(bigE [curE g a e h,rI9 3 aa a8,rS9 44 4 ab a9 cnC,bigE ac]::rI9 3 zv zs::rS9 44 4 cv cs cnC::bigE dp::boxE b5 #[jI d.W,jI d.H,jI d.T,jI d.R] 25::boxE b1 #[jI 0,jI 0,jI 0,jI 0] 25::l)) A ?_
 refine aS 4 A (cA (cs':=#[jI d2.W,jI d2.H,jI d2.T,jI d2.R]) (i:=4) (off:=0) (us:=[jI d2.W,jI d2.H,jI d2.T,jI d2.R]) A A A A A A A (aC A (aC A (aC A (aC A bH)))) A A A ?_)
 refine eS 2 A ?_
 refine bN 6 [5,4,3,2,1,0] A A V ?_
 refine fH (curE g a e h::rI9 3 aa a8::rS9 44 4 ab a9 cnC::bigE ac::rI9 3 zv zs::rS9 44 4 cv cs cnC::bigE dp::boxE b5 #[jI d2.W,jI d2.H,jI d2.T,jI d2.R] 25::boxE b1 #[jI 0,jI 0,jI 0,jI 0] 25::l) gN ?_
 exact iL (Dev.mk d2.W d2.H d2.T d2.R) (aa,a8) (ab,a9) ac ⟨af,ag,ah,ae⟩ (bV A) (.cons_cons _ (.cons_cons _ (.cons_cons _ (.cons_cons _ (pR 3 A)))))
 refine dL (jQ A ?_)
 exact iL (Dev.mk d.W d.H d.T d.R) (zv,zs) (cv,cs) dp ⟨az,b0,b2,ay⟩ (bV A) (.refl _)
 intro D Z U ps ai
 obtain⟨b4,b6,b7,b8⟩:=ai
 refine aG ?_
 refine kY (l:=(rI9 3 Z.1 Z.2::rS9 44 4 U.1 U.2 cnC::bigE ps::boxE b5 #[jI D.W,jI D.H,jI D.T,jI D.R] 25::boxE b1 #[jI 0,jI 0,jI 0,jI 0] 25::l)) A 4 [0,1,2,3] (List.take 4 _) (List.drop 4 _) [[],[],[1],[0,2]] [26,27,28,29] (fun i_ b9 v_ E=>match i_ with|0=>v_=.agg #[jI D.W,jI D.H,jI D.T,jI D.R]∧E=[]|1=>v_=pI g∧E=[]|2=>(∃a4,E=[a4]∧(fun J E=>(∃Y:Int,J=jI Y∧0≤Y∧Y<3)∧E=curE g a e h) v_ a4)|3=>(fun J E=>∃zs:List Int,E=[rI9 3 J zs]∧zs.length≤10000) v_ E|_=>True) [[],[],[1],[0,2]] [none,none,some 5,none] [curE g a e h] [0,1,2,3] 5 (take_append_drop 4 _).symm F F F A A ?_ ?_
 refine⟨?_,?_,?_,?_,trivial⟩
 intro vf pf K M
 refine kB [] [] A (bC (aD [6] A) z9 ?_)
 exact aK (aP (cs:=[jI D.W,jI D.H,jI D.T,jI D.R]) A A A A A (aM 3 A 0 A))
 intro vf pf K M
 refine kB [] [] A (aZ (aD [0] A) ?_)
 exact aK (aU A)
 intro vf pf K M
 have e1:=M 1 V
 refine Or.inl ⟨A,?_⟩
 show RunM _ _ _ (pf 5) (([1]:List Nat).flatMap pf++_) (envOf _ vf [1]++_) _ _
 rw[K]
 exact eJ (aX 27 e1.1 (aA _)) (by simp only[e1.2,fS]<;>rfl) (gX (R:=(fun J E=>(∃Y:Int,J=jI Y∧0≤Y∧Y<3)∧E=curE g a e h)) A A (fun L w hX hm=>dT g a e h z 3 _ _ _ hm hb AE))
 intro vf pf K M
 have e0:=M 0 V
 obtain⟨ba,a1,a5⟩:=M 2 V
 obtain⟨bb,G⟩:=dU (vf 2)
 rw[G] at a5
 obtain⟨⟨aj,rfl,ak,al⟩,rfl⟩:=a5
 refine kB [0,2] [0,2] A (bQ (aX 26 e0.1 (aX 28 G (aA _))) (by simp only[a1,G,e0.2,fS]<;>rfl) ?_)
 exact aF A A (fun w hm=>pY D aj w)
 intro vf pf K M
 obtain⟨ba,a1,a5⟩:=M 2 V
 obtain⟨bb,G⟩:=dU (vf 2)
 rw[G] at a5
 obtain⟨⟨aj,rfl,ak,al⟩,rfl⟩:=a5
 obtain⟨a0,a2⟩:=dU (vf 3)
 obtain⟨bu,a6⟩:=dU (pf 3)
 have am:=M 3 V
 rw[a2,a6] at am
 obtain⟨B,rfl,bm⟩:=am
 have q0:=M 0 V
 have q1:=M 1 V
 refine cL (bE [9,8,6,5,4,3,2,0] _ (aX 29 a2 (aA _)) A) (by simp only[a1,G,a6,a2,q0.2,q1.2,fS]<;>rfl) ?_
 simp only[drop_succ_cons,drop_zero]
 refine bG 1 A ?_
 refine kX (α:=Value×List Int) (β:=List HP) (fun X wp=>(curE g a e h::rI9 3 Z.1 Z.2::rS9 44 4 U.1 U.2 cnC::bigE ps::boxE b5 #[jI D.W,jI D.H,jI D.T,jI D.R] 25::boxE b1 #[jI 0,jI 0,jI 0,jI 0] 25::bigE wp::l)) (fun X wp=>[(0,pI g),(2,pI b1),(3,.slice none 0 0),(4,.slice none 0 0),(5,.slice none 0 0),(6,pI b5),(8,U.1),(9,Z.1),(10,X.1)]) (fun X wp=>X.2.length≤20000∧∀w,(bigE wp).holds w→RdsW w X.1 1 X.2.length (mI X.2)) ?_ ?_
 refine aG (cN 1 A ?_)
 refine cR (R:=(fun J E=>(∃Y:Int,J=jI Y∧0≤Y∧Y<6)∧E=curE g a e h)) 0 A A A A A (fun l' w hm=>dT g a e h z 6 _ _ _ hm hb AE) ?_
 intro bv bw bc
 obtain⟨⟨bx,rfl,bn,bo⟩,rfl⟩:=bc
 refine dO (l':=(curE g a e h::rI9 3 a0 B::rI9 3 Z.1 Z.2::rS9 44 4 U.1 U.2 cnC::bigE ps::boxE b5 #[jI D.W,jI D.H,jI D.T,jI D.R] 25::boxE b1 #[jI 0,jI 0,jI 0,jI 0] 25::l)) A ?_
 refine dL (bS (dW ?_))
 refine bZ A A A A A A (fun bd=>?_) (fun bd=>?_)
 refine bG 1 A (aR A ?_)
 refine kY (l:=(rI9 3 a0 B::rI9 3 Z.1 Z.2::rS9 44 4 U.1 U.2 cnC::bigE ps::boxE b5 #[jI D.W,jI D.H,jI D.T,jI D.R] 25::boxE b1 #[jI 0,jI 0,jI 0,jI 0] 25::l)) A 4 [0,1,2,3] (List.take 4 _) (List.drop 4 _) [[],[],[1],[0,2]] [34,35,36,37] (fun i_ b9 v_ E=>match i_ with|0=>v_=.agg #[jI D.W,jI D.H,jI D.T,jI D.R]∧E=[]|1=>v_=pI g∧E=[]|2=>(∃a4,E=[a4]∧(fun J E=>(∃Y:Int,J=jI Y∧0≤Y∧Y<3)∧E=curE g a e h) v_ a4)|3=>(fun J E=>∃zs:List Int,E=[rI9 3 J zs]∧zs.length≤10000) v_ E|_=>True) [[],[],[1],[0,2]] [none,none,some 5,none] [curE g a e h] [0,1,2,3] 5 (take_append_drop 4 _).symm F F F A A ?_ ?_
 refine⟨?_,?_,?_,?_,trivial⟩
 intro vf pf K M
 refine kB [] [] A (bC (aD [6] A) z9 ?_)
 exact aK (aP (cs:=[jI D.W,jI D.H,jI D.T,jI D.R]) A A A A A (aM 4 A 0 A))
 intro vf pf K M
 refine kB [] [] A (aZ (aD [0] A) ?_)
 exact aK (aU A)
 intro vf pf K M
 have e1:=M 1 V
 refine Or.inl ⟨A,?_⟩
 show RunM _ _ _ (pf 5) (([1]:List Nat).flatMap pf++_) (envOf _ vf [1]++_) _ _
 rw[K]
 exact eJ (aX 35 e1.1 (aA _)) (by simp only[e1.2,fS]<;>rfl) (gX (R:=(fun J E=>(∃Y:Int,J=jI Y∧0≤Y∧Y<3)∧E=curE g a e h)) A A (fun L w hX hm=>dT g a e h z 3 _ _ _ hm hb AE))
 intro vf pf K M
 have e0:=M 0 V
 obtain⟨be,a1,a7⟩:=M 2 V
 obtain⟨bf,G⟩:=dU (vf 2)
 rw[G] at a7
 obtain⟨⟨an,rfl,ao,ap⟩,rfl⟩:=a7
 refine kB [0,2] [0,2] A (bQ (aX 34 e0.1 (aX 36 G (aA _))) (by simp only[a1,G,e0.2,fS]<;>rfl) ?_)
 exact aF A A (fun w hm=>tW D an w)
 intro vf pf K M
 obtain⟨be,a1,a7⟩:=M 2 V
 obtain⟨bf,G⟩:=dU (vf 2)
 rw[G] at a7
 obtain⟨⟨an,rfl,ao,ap⟩,rfl⟩:=a7
 obtain⟨aq,a2⟩:=dU (vf 3)
 obtain⟨bz,a6⟩:=dU (pf 3)
 have ar:=M 3 V
 rw[a2,a6] at ar
 obtain⟨ad,rfl,bp⟩:=ar
 have q0:=M 0 V
 have q1:=M 1 V
 refine cL (bE [32,31,10,9,8,6,5,4,3,2,0] _ (aX 37 a2 (aA _)) A) (by simp only[a1,G,a6,a2,q0.2,q1.2,fS]<;>rfl) ?_
 simp only[drop_succ_cons,drop_zero]
 refine eS 1 A (cG ?_)
 refine bN 8 [7,6,5,4,3,0,1] A A V ?_
 refine dN 1 A ?_
 refine bN 7 [0,6,5,4,3,2,1] A A V ?_
 exact eU (aq,ad) [rI9 3 aq ad] ⟨by first|(show List.length ad≤_;omega)|(show List.length (List.drop _ _)≤_;rw[length_drop];omega)|(show List.length (_++[_])≤_;rw[length_append,length_singleton];omega),fun w hw=>cI (bF hw eG)⟩ (bV rfl) (.refl _)
 refine bG 1 A (aV A (dW ?_))
 refine bZ A A A A A A (fun bg=>?_) (fun bg=>?_)
 refine bG 1 A (aR A (cN 1 A ?_))
 obtain⟨c0,c1⟩:=Jv D
 refine aS 1 A (aN A (aP (cs:=[jI D.W,jI D.H,jI D.T,jI D.R]) A A A A A (aM 5 A 0 A)) ?_)
 refine cM A (aF A A (fun w hm=>aI (Cb D w))) (cR (R:=(fun J E=>(∃x:Int,J=jI x∧-9223372036854775808≤x∧x≤9223372036854775807)∧E=curE g a e h)) 0 A A A A A (fun l' w hm=>kO g a e h z (rnI D) _ _ _ hm hb O) ?_)
 intro c2 c3 bh
 obtain⟨⟨a3,rfl,bq,br⟩,rfl⟩:=bh
 refine dO (l':=(curE g a e h::rI9 3 a0 B::rI9 3 Z.1 Z.2::rS9 44 4 U.1 U.2 cnC::bigE ps::boxE b5 #[jI D.W,jI D.H,jI D.T,jI D.R] 25::boxE b1 #[jI 0,jI 0,jI 0,jI 0] 25::l)) A ?_
 refine cH A (aH (z:=jI 0) (s:=1) (cs:=(mI [a3])) A z8 A V A F A) ?_
 intro c4
 refine bT (i:=2) (z:=jI 0) (bytes:=8) A A A A z8 F A A A A (aB 0 A) (bI _) AD (bK B ([a3])) (cB B ([a3])) (fun _=>A) ?_
 intro au
 refine eS 1 A (cG ?_)
 refine bN 8 [7,6,5,4,3,1,2] A A V ?_
 refine dN 1 A ?_
 refine bN 7 [0,6,5,4,3,2,1] A A V ?_
 exact eU (au,(B++([a3]))) [rowE 3 1 au ((B++([a3])).length) (mI (B++([a3])))] ⟨by first|(show List.length (B++([a3]))≤_;omega)|(show List.length (List.drop _ _)≤_;rw[length_drop];omega)|(show List.length (_++[_])≤_;rw[length_append,length_singleton];omega),fun w hw=>cI (bF hw eG)⟩ (bV rfl) (.refl _)
 refine bG 1 A (aV A (dW ?_))
 refine bZ A A A A A A (fun bi=>?_) (fun bi=>?_)
 refine bG 1 A (aR A (aG (cN 1 A (aN A (eV A A A (aB 1 A)) ?_))))
 refine fJ A A A A A A (fun bj=>?_) (fun bj=>?_)
 refine dL (aR A (cN 1 A (aN A (nS A z8 A A A (aB 1 A) O O) (eS 1 A (cG ?_)))))
 refine bN 7 [6,5,4,3,2,0,1] A A V ?_
 refine dN 1 A ?_
 refine bN 7 [0,6,5,4,3,2,1] A A V ?_
 exact eU (slV a0 (1:Int).toNat B.length 1,(B.drop 1)) [rI9 3 a0 B] ⟨by first|(show List.length B≤_;omega)|(show List.length (List.drop _ _)≤_;rw[length_drop];omega)|(show List.length (_++[_])≤_;rw[length_append,length_singleton];omega),fun w hw=>Ci (cI (bF hw eG)) O⟩ (bV rfl) (.refl _)
 refine dL (jQ A (cG ?_))
 refine bN 7 [6,5,4,3,2,0,1] A A V ?_
 refine dN 1 A ?_
 refine bN 7 [0,6,5,4,3,2,1] A A V ?_
 exact eU (a0,B) [rI9 3 a0 B] ⟨by first|(show List.length B≤_;omega)|(show List.length (List.drop _ _)≤_;rw[length_drop];omega)|(show List.length (_++[_])≤_;rw[length_append,length_singleton];omega),fun w hw=>cI (bF hw eG)⟩ (bV rfl) (.refl _)
 refine bG 1 A (jQ A (cG ?_))
 refine bN 7 [6,5,4,3,2,0,1] A A V ?_
 refine dN 1 A ?_
 refine bN 7 [0,6,5,4,3,2,1] A A V ?_
 exact eU (a0,B) [rI9 3 a0 B] ⟨by first|(show List.length B≤_;omega)|(show List.length (List.drop _ _)≤_;rw[length_drop];omega)|(show List.length (_++[_])≤_;rw[length_append,length_singleton];omega),fun w hw=>cI (bF hw eG)⟩ (bV rfl) (.refl _)
 intro X wp aw
 obtain⟨bk,bl⟩:=aw
 refine dW (aN A (aP (cs:=[jI D.W,jI D.H,jI D.T,jI D.R]) A A A A A (aM 4 A 0 A)) (aS 3 A ?_))
 refine cA (cs':=#[jI D.W,jI D.H,jI D.T,jI D.R]) (i:=5) (off:=0) (us:=[jI D.W,jI D.H,jI D.T,jI D.R]) A A A A A A A (aC A (aC A (aC A (aC A bH)))) A A A (bG 3 A ?_)
 refine cW (bN 7 [5,4,0,6,3,2,1] A A V ?_)
 refine dN 4 A ?_
 refine bN 4 [3,2,0,1] A A V ?_
 refine dN 2 A ?_
 exact fU (rs:=[.cell 2 25,.tmp 3,.tmp 4,.tmp 5]) (vs:=[.agg #[jI D.W,jI D.H,jI D.T,jI D.R],Z.1,U.1,X.1]) A ⟨⟨b1,0,[jI D.W,jI D.H,jI D.T,jI D.R],A,A,F,F,aM 2 A 0 A⟩,A,A,A,trivial⟩ A (fun w hm=>⟨_,bigE [curE g a e h,bigE [rI9 3 Z.1 Z.2,rS9 44 4 U.1 U.2 cnC,bigE ps,bigE wp]],A,⟨D,Z.2,X.2,U.2,Z.1,U.1,X.1,_,A,A,fun w hw=>⟨cI (bF hw eG),⟨cI (bF hw (fW eG)),b8 w (bF hw (fW (fW eG)))⟩,bl w (bF hw (fW (fW (fW eG))))⟩,b4,b6,b7,bk⟩,hm.sub (.cons_cons _ (pR 2 A))⟩)
def TrP (d:Dev) (s:Int) (ns:List Int):Prop:=∀i,i<ns.length→ns.getD i 0=s∨∃j,j<i∧ns.getD j 0∈srcI d (ns.getD i 0)
theorem Kv {d:Dev}{k s:Int}(h:s∈srcI d k):0≤k∧k<allI d:=by
  have e:nodeOkI d k=true:=by
    apply Decidable.byContradiction
    intro B
    rw[Ca d k B] at h;simp at h
  obtain⟨D,k0,jH⟩:=fN e
  exact⟨O,O⟩
theorem TrP.rch {d:Dev}{s:Int}{ns ws:List Int}(h:TrP d s ns) (hw:∀x∈ns,¬x∈ws):∀i,i<ns.length→Rch d ws s (ns.getD i 0):=by
  intro i
  induction i using Nat.strongRecOn with
  | ind i ih=>
    intro hi
    rcases h i hi with e|⟨j,hj,hm⟩
    · rw[e];exact .base
    · obtain ⟨y0, y1⟩ := Kv hm
      exact .step (ih j hj (by omega)) hm y0 y1 (hw _ (dV hi))
theorem TrP.hits {d:Dev}{pl B ws:List Int}{c:Cn}(h:TrP d (srcN d pl c) B) (E:apB d pl c ws=true) (G:∀q∈snkG d pl c.ks,q∈B):∃x∈ws,x∈B:=by
  apply Decidable.byContradiction
  intro J
  obtain⟨-,q,K,M⟩:=tM.1 E
  obtain⟨i,U,e⟩:=iF (G q K)
  have:=h.rch (ws:=ws) (fun x X D=>J ⟨x,D,X⟩) i U
  rw[e] at this;exact M this
theorem wX {α:Type}{p q:α→Bool}:∀(xs:List α),(∀x,p x=true→q x=false)→(xs.filter fun x=>p x||q x).length=(xs.filter p).length+(xs.filter q).length
  | [],_=>rfl
  | x::xs,h=>by
    have ih:=wX xs h
    have e:=h x
    simp only[List.filter_cons]
    cases hp:p x<;>cases hq:q x
    · simpa using ih
    · simp;omega
    · simp;omega
    · rw[e hp] at hq;cases hq
theorem xB {d : Dev} {pl ws : List Int} : ∀ (cs : List Cn) (rs : List (List Int)), rs.length = cs.length → (∀ i, i < cs.length → apB d pl (cs.getD i cn0) ws = true → ∃ x ∈ ws, x ∈ rs.getD i []) → (∀ i j, i < j → j < rs.length → ∀ x ∈ rs.getD i [], ¬ x ∈ rs.getD j []) →
    (cs.filter fun c=>apB d pl c ws).length≤(ws.filter fun x=>rs.any fun r=>r.contains x).length
  | [],_,_,_,_=>Nat.zero_le _
  | c::cs,[],hl,_,_=>by simp at hl
  | c::cs,r::rs,hl,h1,h2=>by
    have ih:=xB cs rs (by simpa using hl) (fun i hi ha=>h1 (i+1) (by simpa using hi) ha) (fun i j hij hj x hx=>h2 (i+1) (j+1) (by omega) (by simpa using hj) x hx)
    have e:(ws.filter fun x=>(r::rs).any fun r=>r.contains x).length=(ws.filter fun x=>r.contains x).length+(ws.filter fun x=>rs.any fun r=>r.contains x).length:=by
      rw[←wX (p:=fun x=>r.contains x) (q:=fun x=>rs.any fun r=>r.contains x)]
      · simp only[List.any_cons]
      · intro x hx
        rw[Bool.eq_false_iff]
        intro ha
        obtain⟨r2,hr2,hx2⟩:=List.any_eq_true.1 ha
        obtain⟨j,hj,e⟩:=List.getElem_of_mem hr2
        refine h2 0 (j+1) (by omega) (by simpa using hj) x (List.contains_iff_mem.1 hx) ?_
        rw[getD_eq_getElem?_getD,List.getElem?_cons_succ,List.getElem?_eq_getElem hj,Option.getD_some,e]
        exact List.contains_iff_mem.1 hx2
    rw[e,List.filter_cons]
    split
    · rename_i ha
      obtain⟨x,hx,hxr⟩:=h1 0 (by simp) ha
      have:0<(ws.filter fun x=>r.contains x).length:=List.length_pos_of_mem (List.mem_filter.2 ⟨hx,List.contains_iff_mem.2 hxr⟩)
      rw[length_cons];omega
    · omega
structure RsApart (d:Dev) (pl:List Int) (cs:List Cn) (rs:List (List Int)):Prop where
  len:rs.length=cs.length
  tree:∀i,i<cs.length→TrP d (srcN d pl (cs.getD i cn0)) (rs.getD i [])
  snk:∀i,i<cs.length→∀q∈snkG d pl (cs.getD i cn0).ks,q∈rs.getD i []
  apart:∀i j,i<j→j<rs.length→∀x∈rs.getD i [],¬x∈rs.getD j []
theorem nF {d:Dev}{pl:List Int}{cs:List Cn}{ws:List Int}:crB d pl cs ws=true↔wsB d ws=true∧(ws.length:Int)<cntS d pl ws cs:=by
  unfold crB scI
  rw[and_eq_true,decide_eq_true_eq]
  constructor
  · rintro ⟨e,h⟩;rw[if_pos e] at h;exact⟨e,h⟩
  · rintro ⟨e,h⟩;rw[if_pos e];exact⟨e,h⟩
theorem RsApart.no {d:Dev}{pl:List Int}{cs:List Cn}{rs:List (List Int)}{ws:List Int}(h:RsApart d pl cs rs):¬crB d pl cs ws=true:=fun B=>by
  obtain⟨-,D⟩:=nF.1 B
  have G:=xB cs rs h.len (fun i e E=>(h.tree i e).hits E (h.snk i e)) h.apart (d:=d) (pl:=pl) (ws:=ws)
  have J:=List.length_filter_le (fun x=>rs.any fun r=>r.contains x) ws
  unfold cntS at D
  omega
structure DfX (d:Dev) (cs D:List Int):Prop where
  len:D.length=(allI d).toNat
  lo:∀k,k<D.length→-1≤D.getD k 0
  up:∀k,k<D.length→D.getD k 0≤9*(cntK D:Int)
  tig:∀k,k<D.length→0<D.getD k 0→∃y∈srcI d k,0≤gI D y∧gI D y+cs.getD k 0≤D.getD k 0
def FixK (d:Dev) (cs D:List Int) (k:Nat):Prop:=∀y∈srcI d k,0≤gI D y→0≤D.getD k 0∧D.getD k 0≤gI D y+cs.getD k 0
def CsB (d:Dev) (cs:List Int):Prop:=cs.length=(allI d).toNat∧∀k,k<cs.length→1≤cs.getD k 0∧cs.getD k 0≤9
def Dz (d:Dev) (D:List Int):Prop:=D.length=(allI d).toNat∧∀k,k<D.length→D.getD k 0 = -1∨D.getD k 0=0
theorem Dz.set {d:Dev}{D:List Int}{k:Nat}(h:Dz d D) (B:k<D.length):Dz d (D.set k 0):=by
  refine⟨by rw[length_set];exact h.1,fun j e=>?_⟩
  rw[length_set] at e
  rw[iB B];split
  · exact .inr rfl
  · exact h.2 j e
theorem Dz.dfx {d:Dev}{cs D:List Int}(h:Dz d D):DfX d cs D:=⟨h.1,fun k e=>by have:=h.2 k e;omega,fun k e=>by have:=h.2 k e;omega,fun k e B=>by have:=h.2 k e;omega⟩
theorem DfX.bnd {d:Dev}{cs D:List Int}(h:DfX d cs D) {k:Nat}(e:k<D.length) : -1≤D.getD k 0∧D.getD k 0≤9*(D.length:Int):=by
  have:=rG D
  have:=h.lo k e
  have:=h.up k e
  omega
theorem DfX.put {d : Dev} {cs D : List Int} {k : Nat} {x : Int} (h : DfX d cs D) (hc : CsB d cs) (hk : k < D.length) (hx : x ∈ srcI d k) (h0 : 0 ≤ gI D x) (hb : D.getD k 0 < 0 ∨ gI D x + cs.getD k 0 < D.getD k 0) :
    DfX d cs (D.set k (gI D x+cs.getD k 0))∧sumW (9*(allI d).toNat+1) (D.set k (gI D x+cs.getD k 0))<sumW (9*(allI d).toNat+1) D:=by
  have hl:=h.len
  obtain⟨x0,x1⟩:=lH hx
  have hxl:x.toNat<D.length:=by omega
  obtain⟨c1,c2⟩:=hc.2 k (by rw[hc.1];omega)
  have hne:x.toNat≠k:=fun e=>by
    have h9:gI D x=D.getD k 0:=by unfold gI;rw[e]
    omega
  have hux:=h.up x.toNat hxl
  have hgx:gI D x=D.getD x.toNat 0:=rfl
  have hlk:=h.lo k hk
  have hcs:=vN D k (gI D x+cs.getD k 0) hk (by omega)
  have hle:=rG (D.set k (gI D x+cs.getD k 0))
  rw[length_set] at hle
  have hval:gI D x+cs.getD k 0≤9*(cntK (D.set k (gI D x+cs.getD k 0)):Int):=by
    rcases hb with hb|hb
    · rw[hcs,if_pos (by omega)];omega
    · have:=h.up k hk;rw[hcs];omega
  refine⟨⟨by rw[length_set];exact hl,fun j hj=>?_,fun j hj=>?_,fun j hj hp=>?_⟩,?_⟩
  · rw [length_set] at hj
    rw[iB hk];split
    · omega
    · exact h.lo j hj
  · rw [length_set] at hj
    rw[iB hk];split
    · exact hval
    · have:=h.up j hj;rw[hcs];omega
  · rw [length_set] at hj
    rw[iB hk] at hp ⊢
    by_cases e:k=j
    · subst e
      rw[if_pos rfl]
      refine⟨x,hx,?_⟩
      unfold gI
      rw[iB hk,if_neg (fun q=>hne q.symm)]
      exact⟨h0,Int.le_refl _⟩
    · rw [if_neg e] at hp ⊢
      obtain⟨y,hy,y0,y1⟩:=h.tig j hj hp
      refine⟨y,hy,?_⟩
      have hgy:gI D y=D.getD y.toNat 0:=rfl
      unfold gI
      rw[iB hk]
      split
      · rename_i e2
        rw[←e2] at hgy
        have h9:gI D x=D.getD x.toNat 0:=rfl
        omega
      · exact⟨y0,y1⟩
  · have h1 := pW (9 * (allI d).toNat + 1) D k (gI D x + cs.getD k 0) hk
    have h2:wgt (9*(allI d).toNat+1) (gI D x+cs.getD k 0)<wgt (9*(allI d).toNat+1) (D.getD k 0):=by
      unfold wgt
      rw[if_neg (by omega)]
      split<;>omega
    omega
structure RndD (d:Dev) (cs D D2:List Int) (ag:Bool) (k:Nat):Prop where
  dfx:DfX d cs D2
  le:sumW (9*(allI d).toNat+1) D2≤sumW (9*(allI d).toNat+1) D
  lt:ag=true→sumW (9*(allI d).toNat+1) D2<sumW (9*(allI d).toNat+1) D
  fix:ag=false→∀j,j<k→FixK d cs D2 j
theorem RndD.start {d:Dev}{cs D:List Int}(h:DfX d cs D):RndD d cs D D false 0:=⟨h,Nat.le_refl _,(fun e=>by cases e),fun _ j B=>O⟩
theorem RndD.next {d:Dev}{cs D B:List Int}{E:Bool}{k:Nat}(h:RndD d cs D B E k) (G:E=false→FixK d cs B k):RndD d cs D B E (k+1):=⟨h.dfx,h.le,h.lt,fun e j K=>by
  by_cases J:j=k
  · subst J;exact G e
  · exact h.fix e j O⟩
theorem RndD.put {d:Dev}{cs D B:List Int}{E:Bool}{k:Nat}{x:Int}(h:RndD d cs D B E k) (G:CsB d cs) (J:k<B.length) (K:x∈srcI d k) (M:0≤gI B x) (U:B.getD k 0<0∨gI B x+cs.getD k 0<B.getD k 0):RndD d cs D (B.set k (gI B x+cs.getD k 0)) true k:=by
  obtain⟨X,Y⟩:=h.dfx.put G J K M U
  have:=h.le
  exact⟨X,O,fun _=>O,fun e=>by cases e⟩
theorem RndD.less {d:Dev}{cs D B:List Int}{e:Bool}{k:Nat}(h:RndD d cs D B e k) {E:Bool}(G:E=true):2*sumW (9*(allI d).toNat+1) B+(if e=true then 1 else 0)<2*sumW (9*(allI d).toNat+1) D+(if E=true then 1 else 0):=by
  subst G
  have J:=h.le
  cases e with
  | false=>simp;omega
  | true=>have K:=h.lt rfl;simp;omega
theorem Ku {d:Dev}{cs D:List Int}{k:Nat}(h:∀j,j<(srcI d k).length→0≤gI D ((srcI d k).getD j 0)→0≤D.getD k 0∧D.getD k 0≤gI D ((srcI d k).getD j 0)+cs.getD k 0):FixK d cs D k:=fun y e=>by
  obtain⟨j,B,rfl⟩:=iF e
  exact h j B
structure DfE (d:Dev) (cs D:List Int):Prop where
  dfx:DfX d cs D
  fix:∀k,k<(allI d).toNat→FixK d cs D k
theorem DfE.next {d:Dev}{cs D:List Int}(h:DfE d cs D) {k:Nat}(e:k<(allI d).toNat) (G:0<D.getD k 0):∃j,j<(srcI d k).length∧0≤gI D ((srcI d k).getD j 0)∧gI D ((srcI d k).getD j 0)+cs.getD k 0=D.getD k 0:=by
  obtain⟨y,B,E,K⟩:=h.dfx.tig k (by rw[h.dfx.len];exact e) G
  have:=(h.fix k e y B E).2
  obtain⟨j,J,rfl⟩:=iF B
  exact⟨j,J,E,O⟩
theorem gc0 {x:Int}{xs:List Int}:([x]++xs).getD 0 0=x:=rfl
theorem gcS {x:Int}{xs:List Int}(i:Nat):([x]++xs).getD (i+1) 0=xs.getD i 0:=rfl
structure CP (N:Nat) (S:Int→List Int) (cs st D:List Int) (t x:Int) (xs:List Int):Prop where
  l0:1≤xs.length
  first:xs.getD 0 0=x
  last:xs.getD (xs.length-1) 0=t
  rng:∀i,i<xs.length→0≤xs.getD i 0∧xs.getD i 0<N
  chain:∀i,i+1<xs.length→xs.getD i 0∈S (xs.getD (i+1) 0)∧0≤gI D (xs.getD i 0)∧gI D (xs.getD (i+1) 0)=gI D (xs.getD i 0)+gI cs (xs.getD (i+1) 0)
  nst:∀i,i+1<xs.length→¬xs.getD (i+1) 0∈st
  pos:0≤gI D x
  len:gI D x+xs.length≤gI D t+1
theorem cp_one {N:Nat}{S:Int→List Int}{cs st D:List Int}{t:Int}(h0:0≤t) (h1:t<N) (hp:0≤gI D t):CP N S cs st D t t [t]:=
  ⟨by simp, rfl, rfl, fun i hi => by have : i = 0 := by simpa using hi
                                     subst this;exact⟨h0,h1⟩,fun i hi=>by simp at hi,fun i hi=>by simp at hi,hp,by simp⟩
theorem CP.more {N:Nat}{S:Int→List Int}{cs st D:List Int}{t x y:Int}{xs:List Int}(h:CP N S cs st D t x xs) (hx:¬x∈st) (hy:y∈S x) (y0:0≤y) (y1:y<N) (hd:0≤gI D y) (he:gI D y+gI cs x=gI D x) (hc:1≤gI cs x):CP N S cs st D t y ([y]++xs):=by
  have hl:=h.l0
  have e:([y]++xs).length=xs.length+1:=by simp
  refine⟨by omega,rfl,?_,fun i hi=>?_,fun i hi=>?_,fun i hi=>?_,hd,by rw[e];have:=h.len;omega⟩
  · rw[e,show xs.length+1-1=(xs.length-1)+1 by omega,gcS];exact h.last
  · rw [e] at hi
    cases i with
    | zero=>exact⟨y0,y1⟩
    | succ i=>rw[gcS];exact h.rng i (by omega)
  · rw [e] at hi
    cases i with
    | zero=>rw[gc0,gcS,h.first];exact⟨hy,hd,by omega⟩
    | succ i=>rw[gcS,gcS];exact h.chain i (by omega)
  · rw [e] at hi
    cases i with
    | zero=>rw[gcS,h.first];exact hx
    | succ i=>rw[gcS];exact h.nst i (by omega)
theorem Ad {e:List Int}{N:Nat}(h:e.Nodup) (B:∀x∈e,0≤x∧x<N):e.length≤N:=by
  have E:=vJ e N h B
  have D:=List.countP_le_length (p:=fun k:Nat=>e.contains (k:Int)) (l:=List.range N)
  rw[List.length_range] at D
  omega
structure TreeG (d:Dev) (s:Int) (ns fs:List Int):Prop where
  len:ns.length=fs.length
  l0:1≤ns.length
  l1:(ns.length:Int)≤allI d
  root:ns.getD 0 0=s
  from0:fs.getD 0 0=0
  rng:∀x∈ns,0≤x∧x<allI d
  nd:ns.Nodup
  step:∀k,0<k→k<ns.length→0≤fs.getD k 0∧fs.getD k 0<k∧hasB (srcI d (ns.getD k 0)) (ns.getD (fs.getD k 0).toNat 0)=true
theorem TreeG.nsok {d:Dev}{s:Int}{e B:List Int}(h:TreeG d s e B) (E:99≤allI d∧allI d≤828):NsOk (allI d).toNat e:=⟨h.nd,fun x D=>by have:=h.rng x D;omega,by have:=h.l1;omega⟩
structure RtG (d:Dev) (s0:Int) (ns fs:List Int):Prop where
  tr:TreeG d s0 ns fs
  ok:nodeOkI d s0=true
  out:s0 % perI d=5
theorem tg_one {d:Dev}{s:Int}(h:0≤s∧s<allI d):TreeG d s [s] [0]:=⟨rfl,AI,by simp;omega,rfl,rfl,by simpa using h,AI,fun k B e=>by simp at e;omega⟩
theorem TreeG.app {d:Dev}{s x f:Int}{ns fs:List Int}(h:TreeG d s ns fs) (hx:0≤x∧x<allI d) (hn:¬x∈ns) (hf:0≤f∧f<ns.length) (hs:hasB (srcI d x) (ns.getD f.toNat 0)=true):TreeG d s (ns++[x]) (fs++[f]):=by
  have hlen:=h.len
  have hl0:=h.l0
  have hrng:∀y∈ns++[x],0≤y∧y<allI d:=fun y hy=>by
    rcases List.mem_append.1 hy with hy|hy
    · exact h.rng y hy
    · rw[mem_singleton] at hy;subst hy;exact hx
  have hnd:(ns++[x]).Nodup:=by
    rw[List.nodup_append]
    refine⟨h.nd,by simp,fun a ha b hb=>?_⟩
    rw[mem_singleton] at hb;subst hb
    intro e;subst e;exact hn ha
  have hle:=Ad (N:=(allI d).toNat) hnd (fun y hy=>by have:=hrng y hy;omega)
  refine⟨by simp[hlen],by simp,by omega,by rw[Fx (by omega)];exact h.root,by rw[Fx (by omega)];exact h.from0,hrng,hnd,fun k k0 jH=>?_⟩
  rw[length_append,length_singleton] at jH
  by_cases hk:k=ns.length
  · rw [gr (l := fs) (by omega), gr (l := ns) (k := k) (by omega), show k - fs.length = 0 by omega, show k - ns.length = 0 by omega]
    show 0≤f∧f<k∧hasB (srcI d x) ((ns++[x]).getD f.toNat 0)=true
    rw[Fx (by omega)]
    exact⟨hf.1,by omega,hs⟩
  · have := h.step k k0 (by omega)
    rw[Fx (l:=fs) (by omega),Fx (l:=ns) (k:=k) (by omega),Fx (l:=ns) (k:=(fs.getD k 0).toNat) (by omega)]
    exact this
structure GInv (d:Dev) (s0:Int) (ks:List Int) (i:Nat) (r:Rt):Prop where
  tr:TreeG d s0 r.ns r.fs
  has:∀j,j<i→ks.getD j 0∈r.ns
  pin:∀x∈r.ns,x % perI d<5→x∈ks
structure GStep (d:Dev) (s0:Int) (xs:List Int) (r:Rt) (j:Nat) (r2:Rt) (f:Int):Prop where
  tr:TreeG d s0 r2.ns r2.fs
  ns:r2.ns=r.ns++(xs.drop 1).take j
  f0:0≤f
  f1:f<r2.ns.length
  at_:r2.ns.getD f.toNat 0=xs.getD j 0
theorem GStep.start {d:Dev}{e:Int}{xs B:List Int}{r:Rt}{i:Nat}{f:Int}(h:GInv d e B i r) (D:0≤f) (E:f<r.ns.length) (G:r.ns.getD f.toNat 0=xs.getD 0 0):GStep d e xs r 0 ⟨r.nv,r.fv,r.ns,r.fs⟩ f:=
  ⟨h.tr,AI,D,E,G⟩
theorem kI {xs:List Int}{j:Nat}:(xs.drop 1).getD j 0=xs.getD (j+1) 0:=by
  rw[getD_eq_getElem?_getD,List.getElem?_drop,getD_eq_getElem?_getD,Nat.add_comm]
theorem CP.inc {N:Nat}{S:Int→List Int}{cs G D:List Int}{t x:Int}{xs:List Int}(h:CP N S cs G D t x xs) (B:∀k:Int,0≤k→k<N→1≤gI cs k) {i:Nat}:∀k,i<k→k<xs.length→gI D (xs.getD i 0)<gI D (xs.getD k 0)
  | 0,hk,_=>O
  | k+1,hk,hl=>by
    have J:=(h.chain k hl).2.2
    have E:=h.rng (k+1) hl
    have K:=B _ E.1 E.2
    by_cases e:i=k
    · subst e;omega
    · have:=h.inc B (i:=i) k O O;omega
theorem GStep.next {d : Dev} {s0 t x0 : Int} {xs cs st D : List Int} {r r2 : Rt} {j : Nat} {f : Int} (h : GStep d s0 xs r j r2 f) (hcl : (cs.length : Int) = allI d) (hcr : ∀ k, k < cs.length → 1 ≤ cs.getD k 0 ∧ cs.getD k 0 ≤ 100000) (hp : CP cs.length (srcI d) cs st D t x0 xs) (hst : st = r.ns) (hj : j < (xs.drop 1).length) (v1 v2 : Value) :
    GStep d s0 xs r (j+1) ⟨v1,v2,r2.ns++[(xs.drop 1).getD j 0],r2.fs++[f]⟩ (((r2.ns++[(xs.drop 1).getD j 0]).length:Int)-1):=by
  have hl:=h.tr.len
  rw[length_drop] at hj
  have hr:=hp.rng (j+1) (by omega)
  have hn:¬(xs.drop 1).getD j 0∈r2.ns:=by
    rw[h.ns,List.mem_append,kI]
    rintro (hc|hc)
    · exact hp.nst j (by omega) (by rw[hst];exact hc)
    · obtain ⟨q, hq, e⟩ := iF hc
      rw[length_take,length_drop] at hq
      have e2:((xs.drop 1).take j).getD q 0=xs.getD (q+1) 0:=by
        rw[getD_eq_getElem?_getD,List.getElem?_take,if_pos (by omega),←getD_eq_getElem?_getD,kI]
      rw[e2] at e
      have:=hp.inc (fun k k0 jH=>(hcr k.toNat (by omega)).1) (i:=q+1) (j+1) (by omega) (by omega)
      rw[e] at this
      omega
  have htr:=h.tr.app (x:=(xs.drop 1).getD j 0) (f:=f) (by rw[kI];omega) hn ⟨h.f0,h.f1⟩ (by rw[kI,h.at_];exact mV.2 (hp.chain j (by omega)).1)
  refine⟨htr,?_,?_,?_,?_⟩
  · show r2.ns ++ _ = _
    rw[h.ns,List.append_assoc,kD (by rw[length_drop];omega)]
  · rw[length_append,length_singleton];omega
  · show _<((r2.ns++[(xs.drop 1).getD j 0]).length:Int);omega
  · show (r2.ns ++ [(xs.drop 1).getD j 0]).getD _ 0 = _
    rw[length_append,length_singleton,show(((r2.ns.length+1:Nat):Int)-1).toNat=r2.ns.length by omega,gr (Nat.le_refl _),Nat.sub_self]
    exact kI
theorem Ff {d:Dev}{k s:Int}(h:s∈srcI d k):¬s % perI d<5:=by
  have e:nodeOkI d k=true:=by
    apply Decidable.byContradiction
    intro B
    rw[Ca d k B] at h;simp at h
  obtain⟨D,k0,jH⟩:=fN e
  rcases(Ds D k0 jH s h).2 with h1|h1
  · omega
  · omega
theorem GStep.done {d:Dev}{s0 t x0:Int}{xs cs st D ks:List Int}{r r2:Rt}{i j:Nat}{f:Int}(h:GStep d s0 xs r j r2 f) (hg:GInv d s0 ks i r) (hp:CP cs.length (srcI d) cs st D t x0 xs) (hx:x0∈r.ns) (hj:(xs.drop 1).length≤j) (hi:i<ks.length) (ht:ks.getD i 0=t):GInv d s0 ks (i+1) r2:=by
  have hns:r2.ns=r.ns++xs.drop 1:=by rw[h.ns,List.take_of_length_le hj]
  have hl:=hp.l0
  refine⟨h.tr,fun q hq=>?_,fun x hx2 h5=>?_⟩
  · rw [hns, List.mem_append]
    by_cases e:q=i
    · subst e
      rw[ht,←hp.last]
      by_cases e1:xs.length=1
      · left;rw[e1];show xs.getD 0 0∈_;rw[hp.first];exact hx
      · right
        have:xs.getD (xs.length-1) 0=(xs.drop 1).getD (xs.length-2) 0:=by rw[kI];congr 1;omega
        rw[this];exact dV (by rw[length_drop];omega)
    · exact .inl (hg.has q (by omega))
  · rw [hns, List.mem_append] at hx2
    rcases hx2 with hx2|hx2
    · exact hg.pin x hx2 h5
    · obtain ⟨q, hq, e⟩ := iF hx2
      rw[length_drop] at hq
      rw[kI] at e
      by_cases e1:q+1=xs.length-1
      · rw [e1, hp.last, ← ht] at e
        rw[←e];exact dV hi
      · exfalso
        have:=Ff (hp.chain (q+1) (by omega)).1
        rw[e] at this
        exact this h5
theorem GInv.same {d:Dev}{D t:Int}{B:List Int}{r:Rt}{i:Nat}(h:GInv d D B i r) (E:B.getD i 0=t) (G:hasB r.ns t=true):GInv d D B (i+1) r:=
  ⟨h.tr,fun q J=>by
    by_cases e:q=i
    · subst e;rw[E];exact mV.1 G
    · exact h.has q O,h.pin⟩
structure BfsI (d:Dev) (ws:List Int) (s:Int) (bs:List Bl) (td:List Int):Prop where
  len:bs.length=(allI d).toNat
  wsm:∀x∈ws,mkB bs x=true
  src:mkB bs s=true
  snd:∀x:Int,0≤x→x<allI d→mkB bs x=true→x∈ws∨Rch d ws s x
  tdo:∀x∈td,(0≤x∧x<allI d)∧¬x∈ws∧Rch d ws s x
  clo:∀x:Int,0≤x→x<allI d→mkB bs x=true→¬x∈ws→¬x∈td→∀y:Int,0≤y→y<allI d→x∈srcI d y→mkB bs y=true
theorem Dx {d:Dev}{ws:List Int}{s x:Int}(e:0≤s) (B:s<allI d) (D:¬s∈ws) (h:Rch d ws s x):(0≤x∧x<allI d)∧¬x∈ws:=by
  cases h with
  | base=>exact⟨⟨e,B⟩,D⟩
  | step _ _ a b c=>exact⟨⟨a,b⟩,c⟩
theorem BfsI.all {d:Dev}{ws:List Int}{s:Int}{B:List Bl}(h:BfsI d ws s B []) (D:0≤s) (E:s<allI d) (G:¬s∈ws) {x:Int}(e:Rch d ws s x):mkB B x=true:=by
  induction e with
  | base=>exact h.src
  | @step x y e hm y0 y1 hw ih=>
    obtain⟨⟨a,b⟩,c⟩:=Dx D E G e
    exact h.clo x a b ih c AI y y0 y1 hm
theorem BfsI.iff {d:Dev}{ws:List Int}{s:Int}{B:List Bl}(h:BfsI d ws s B []) (D:0≤s) (E:s<allI d) (G:¬s∈ws) {x:Int}(J:0≤x) (K:x<allI d):(mkB B x=true∧¬x∈ws)↔Rch d ws s x:=
  ⟨fun q=>(h.snd x J K q.1).elim (fun e=>absurd e q.2) id,fun q=>⟨h.all D E G q,(Dx D E G q).2⟩⟩
theorem BfsI.start {d:Dev}{ws:List Int}{s:Int}{bs:List Bl}(hl:bs.length=(allI d).toNat) (h0:0≤s) (h1:s<allI d) (hs:¬s∈ws) (hwr:∀x∈ws,0≤x∧x<allI d) (hb:∀x:Int,0≤x→x<allI d→(mkB bs x=true↔x∈ws)) {c:Bl}(hc:c.b=true):BfsI d ws s (bs.set s.toNat c) [s]:=by
  have hk:s.toNat<bs.length:=by omega
  have e:((s.toNat:Nat):Int)=s:=by omega
  refine⟨by rw[length_set];exact hl,fun x hx=>?_,(jE hk hc h0).2 (.inl (by omega)),fun x x0 x1 hx=>?_,fun x hx=>?_,fun x x0 x1 hx hw ht=>?_⟩
  · obtain ⟨a, b⟩ := hwr x hx
    exact(jE hk hc a).2 (.inr ((hb x a b).2 hx))
  · rcases (jE hk hc x0).1 hx with q | q
    · have : x = s := by omega
      subst this;exact .inr .base
    · exact .inl ((hb x x0 x1).1 q)
  · rw[mem_singleton] at hx;subst hx;exact⟨⟨h0,h1⟩,hs,.base⟩
  · rcases (jE hk hc x0).1 hx with q | q
    · exact absurd (List.mem_singleton.2 (show x=s by omega)) ht
    · exact absurd ((hb x x0 x1).1 q) hw
structure BfsJ (d:Dev) (ws:List Int) (s:Int) (bs:List Bl) (td:List Int) (x:Int) (ks:List Int) (j:Nat):Prop where
  len:bs.length=(allI d).toNat
  wsm:∀x∈ws,mkB bs x=true
  src:mkB bs s=true
  snd:∀x:Int,0≤x→x<allI d→mkB bs x=true→x∈ws∨Rch d ws s x
  tdo:∀x∈td,(0≤x∧x<allI d)∧¬x∈ws∧Rch d ws s x
  hx:Rch d ws s x
  clo:∀u:Int,0≤u→u<allI d→mkB bs u=true→¬u∈ws→¬u∈td→u≠x→∀y:Int,0≤y→y<allI d→u∈srcI d y→mkB bs y=true
  cur:∀i,i<j→mkB bs (ks.getD i 0)=true
theorem BfsI.tail {d:Dev}{ws:List Int}{s:Int}{E:List Bl}{e:List Int}(h:BfsI d ws s E e) (B:0<e.length) (G:List Int):BfsJ d ws s E (e.drop 1) (e.getD 0 0) G 0:=by
  cases e with
  | nil=>exact absurd B AI
  | cons a e=>
    refine⟨h.len,h.wsm,h.src,h.snd,fun x J=>h.tdo x (mem_cons_of_mem _ J),(h.tdo a mem_cons_self).2.2,fun u K M U X B D y Y Z hy=>?_,fun i hi=>O⟩
    exact h.clo u K M U X (fun q=>(List.mem_cons.1 q).elim D B) y Y Z hy
theorem BfsJ.skip {d:Dev}{ws:List Int}{s x:Int}{B:List Bl}{E D:List Int}{j:Nat}(h:BfsJ d ws s B E x D j) (G:mkB B (D.getD j 0)=true):BfsJ d ws s B E x D (j+1):=
  ⟨h.len,h.wsm,h.src,h.snd,h.tdo,h.hx,h.clo,fun i J=>by
    by_cases e:i=j
    · subst e;exact G
    · exact h.cur i O⟩
theorem BfsJ.put {d:Dev}{ws:List Int}{s x:Int}{bs:List Bl}{td ks:List Int}{j:Nat}(h:BfsJ d ws s bs td x ks j) (hn:mkB bs (ks.getD j 0)=false) (y0:0≤ks.getD j 0) (y1:ks.getD j 0<allI d) (hs:x∈srcI d (ks.getD j 0)) {c:Bl}(hc:c.b=true) (hr:∀i,i<ks.length→0≤ks.getD i 0) (hj:j<ks.length) (h0:0≤s) (hw0:∀x∈ws,0≤x) :
    BfsJ d ws s (bs.set (ks.getD j 0).toNat c) (td++[ks.getD j 0]) x ks (j+1):=by
  have hl:=h.len
  have hk:(ks.getD j 0).toNat<bs.length:=by omega
  have hnw:¬ks.getD j 0∈ws:=fun q=>by rw[h.wsm _ q] at hn;cases hn
  have hry:Rch d ws s (ks.getD j 0):=.step h.hx hs y0 y1 hnw
  have up:∀u:Int,0≤u→mkB bs u=true→mkB (bs.set (ks.getD j 0).toNat c) u=true:=fun u u0 q=>(jE hk hc u0).2 (.inr q)
  refine⟨by rw[length_set];exact hl,fun u hu=>up u (hw0 u hu) (h.wsm u hu),up s h0 h.src,fun u u0 u1 hu=>?_,fun u hu=>?_,h.hx,fun u u0 u1 hm hw ht hne y z0 z1 hy=>?_,fun i hi=>?_⟩
  · rcases (jE hk hc u0).1 hu with q | q
    · have : u = ks.getD j 0 := by omega
      subst this;exact .inr hry
    · exact h.snd u u0 u1 q
  · rcases List.mem_append.1 hu with q | q
    · exact h.tdo u q
    · rw[mem_singleton] at q;subst q;exact⟨⟨y0,y1⟩,hnw,hry⟩
  · have ht2 : ¬ u ∈ td := fun q => ht (List.mem_append_left _ q)
    have hn2:u≠ks.getD j 0:=fun q=>ht (List.mem_append_right _ (List.mem_singleton.2 q))
    rcases(jE hk hc u0).1 hm with q|q
    · omega
    · exact up y z0 (h.clo u u0 u1 q hw ht2 hne y z0 z1 hy)
  · by_cases e : i = j
    · subst e;exact(jE hk hc y0).2 (.inl (by omega))
    · exact up _ (hr i (by omega)) (h.cur i (by omega))
theorem BfsJ.fin {d:Dev}{ws:List Int}{s x:Int}{bs:List Bl}{td ks:List Int}{j:Nat}(h:BfsJ d ws s bs td x ks j) (hj:j=ks.length) (hk:∀y:Int,0≤y→y<allI d→x∈srcI d y→y∈ks):BfsI d ws s bs td:=
  ⟨h.len,h.wsm,h.src,h.snd,h.tdo,fun u u0 u1 hm hw ht y y0 y1 hy=>by
    by_cases e:u=x
    · subst e
      obtain⟨i,hi,e2⟩:=iF (hk y y0 y1 hy)
      have:=h.cur i (by omega)
      rwa [e2] at this
    · exact h.clo u u0 u1 hm hw ht e y y0 y1 hy⟩
theorem Fg {d:Dev}{N:Nat}{g:Gr}(h:GrOk d N g) {x:Int}(e:0≤x) (B:x<N) {n:Int}(D:0≤n) (E:n<N) (G:x∈srcI d n):n∈(g.ks.getD x.toNat ir0).xs:=by
  refine(h.ks.mem x.toNat O n).2 (.inl ⟨D,E,?_⟩)
  rw[Int.toNat_of_nonneg e];exact G
theorem out_nw {d:Dev}{t p:Int}(h:0≤outPinI d t p):isWireI d (outPinI d t p)=false:=by
  rw[Bool.eq_false_iff]
  intro hw
  have h7:=(uU hw).2.2.2.1
  by_cases hc:0≤p∧p<outPinsI (tileKindI d t)
  · have e := (gA d t p).1 hc
    obtain⟨r0,r1,r2⟩:=qI d t
    obtain⟨hv,t0,t1⟩:=(fC _ _).1 (r2 (by omega))
    obtain⟨q1,q2⟩:=fR hv
    obtain⟨f1,f2⟩:=wI (W:=perI d) (x:=5+p) (y:=t) (by omega) (by omega) (by omega)
    rw[e,show t*perI d+5+p=t*perI d+(5+p) by omega,f1] at h7
    omega
  · rw[(gA d t p).2 hc] at h;omega
theorem Jk {d:Dev}{pl:List Int}{c:Cn}(h:0≤srcN d pl c):isWireI d (srcN d pl c)=false:=by
  unfold srcN at h ⊢
  by_cases e:0≤c.sb∧c.sb<pl.length
  · rw[if_pos e] at h ⊢;exact out_nw h
  · rw[if_neg e] at h;omega
theorem lN {P:Program}{N:Nat}{w0:World}{l:List HP}{env:List (Nat×Value)}{o:Oper}{t J e:TypeId}{x y:Operand}{v:Value}{s n:Nat}{cs:List Value}(B:o.op=.binOp .eql t x y J) (D:P.underlying t=some (.slice e)) (E:ev env x=some v) (G:ev env y=some (.slice none 0 0)) (K:Rd w0 l v s n cs) (M:n=0→v=.slice none 0 0):RunV P N w0 l env o (.bool (decide (n=0))):=by
  by_cases h:n=0
  · rw[decide_eq_true h];exact xW B D (by rw[E,M h]) G
  · rw[decide_eq_false h];exact Fi B D E G K O
theorem wD (d:Dev) (b:Nat) (g:Gr) (cs K:List Int) (cv sv:Value) (t:Int) (w:World) (Y:RdsGr w b g) (M:GrOk d (allI d).toNat g) (hd:devB d=true) (ab:RdsW w cv 1 cs.length (cs.map (Value.int .i64))) (ac:(cs.length:Int)=allI d) (a4:∀k,k<cs.length→1≤cs.getD k 0∧cs.getD k 0≤100000) (a5:RdsW w sv 1 K.length (K.map (Value.int .i64))) (ad:K.length≤1000000) (ae:∀s∈K,0≤s∧s<allI d) (ht:0≤t∧t<allI d) :
   Calls Tryz.prog 72 #[.pointer (some ⟨b,0,none⟩),cv,sv,.int .i64 t] w (Ret w (fun v' post=>∃xs:List Int,post=[rI9 3 v' xs]∧(xs.length=0→v'=.slice none 0 0)∧(¬xs.length=0→∃D x,DistOk cs.length (srcI d) cs K D∧x∈K∧CP cs.length (srcI d) cs K D t x xs)∧xs.length≤90000000)):=by
 obtain⟨aw,ax⟩:=eM hd
 refine aY (N:=78) (args:=[pI b,cv,sv,jI t]) Tryz.func72 A A (cF 1 A (aG (cN 3 A ?_)))
 refine fF A A A (aF A A (fun w e=>wC b g cs K _ _ (srcI d) w (Y.below e.bel) (by rw[M.ks.len];omega) (fun x hx=>by have:=M.ks.sz x O;omega) (M.srcs' hd ac a4) ((aE ab) w e) ((aE a5) w e) ad (fun s hs=>by have:=ae s hs;omega))) fun U p2 R3=>?_
 obtain⟨D,rfl,hD⟩:=R3
 have ay:=hD.len
 have az:=hD.rng t ht.1 O
 have ao:gI D t=D.getD t.toNat 0:=rfl
 refine go ?_
 refine cM A (aF A A (fun w e=>aI (hH (cS _ _ _ w)))) (bD (fun h4=>go ?_) (fun h4=>absurd (((Ic O)).symm.trans h4) V))
 refine aN A (cV 1 A A A A (aB 0 A)) (aN A (lP A A A (aB 0 A)) ?_)
 refine bZ A A A A A A (fun h5=>go ?_) (fun h5=>go ?_)
 refine fH [rowE 3 1 (.slice none 0 0) (([]:List Int).length) (mI ([]:List Int)),rI9 3 U D] (fun w e=>e.nilRow 3 1) ?_
 exact bM (post:=[rowE 3 1 (.slice none 0 0) (([]:List Int).length) (mI ([]:List Int))]) A A (eA [0] A) ⟨[],A,fun _=>A,fun h=>absurd A h,Nat.zero_le _⟩
 refine cH A (aH (z:=jI 0) (s:=1) (cs:=(mI [t])) A z8 A V A F A) fun g6=>go ?_
 have af:0≤gI D t:=O
 have ap:0≤D.getD t.toNat 0∧D.getD t.toNat 0≤100000*(cs.length:Int):=O
 refine fP (α:=Int) (β:=Value) (γ:=List Int) [0,1,2,3,8,9,30] A (fun x u xs=>[rI9 3 u xs,rI9 3 U D]) (fun x u xs=>[(10,u),(11,jI x)]) (fun x u xs=>(0≤x∧x<allI d)∧CP cs.length (srcI d) cs K D t x xs) (fun x u xs=>(gI D x).toNat) t _ [t] ⟨ht,cp_one ht.1 O af⟩ (bV A) (cZ A) fun x u xs ag=>go ?_
 obtain⟨⟨a6,b0⟩,E⟩:=ag
 have b1:=E.l0
 have b2:=E.len
 have b3:=E.pos
 have aq:gI D x=D.getD x.toNat 0:=rfl
 refine cM A (aF A A (fun w e=>aI (lS K x _ w ((aE a5) w e) (by first|omega|simp)))) (bD (fun h8=>go ?_) (fun h8=>go ?_))
 have a7:=h8
 exact bM (post:=[rI9 3 u xs]) A A (eA [0] A) ⟨xs,A,fun h=>O,fun _=>⟨D,x,hD,mV.1 a7,E⟩,O⟩
 have a8:=h8
 have ar:=M.so.len
 have G:(g.so.getD (x.toNat) ir0).xs=srcI d x:=by have:=M.so.src x.toNat O;rwa [Int.toNat_of_nonneg a6] at this
 have au:(g.so.getD (x.toNat) ir0).xs.length≤16:=by rw[G];exact oG _ _
 have a9:¬x∈K:=by rw[←mV];simpa using a8
 have b4:=a4 x.toNat O
 refine aN A (jM A A) (go ?_)
 refine aN A (bJ A A A (fun w e=>(e.bel.cell (p:=⟨b,0+0,none⟩) Y.lt).trans Y.c0)) (go ?_)
 refine aN A (cV 1 A A A A (fun w e=>(Y.so.below e.bel).row)) (aN A (aL (u:=(g.so.getD (x.toNat) ir0).v) A A A (fun w e=>(Y.so.below e.bel).row) (dF irC (fun r=>r.v) (fun _=>A) g.so ir0 (show x.toNat<_ by omega))) ?_)
 refine aN A (eV A A A (fun w e=>(Y.so.at (k:=x.toNat) O).below e.bel)) (go ?_)
 refine lC (α:=Nat) [0,1,2,3,8,9,10,11,30,37,44,45] A (fun j=>[rI9 3 u xs,rI9 3 U D]) (fun j=>[(46,jI (j:Int))]) (fun j=>j≤(g.so.getD (x.toNat) ir0).xs.length∧∀i,i<j→¬(D.getD (((g.so.getD (x.toNat) ir0).xs).getD i 0).toNat 0≠-1∧D.getD (((g.so.getD (x.toNat) ir0).xs).getD i 0).toNat 0+cs.getD x.toNat 0=D.getD x.toNat 0)) (fun j=>(g.so.getD (x.toNat) ir0).xs.length-j) 0 ⟨O,fun i hi=>absurd hi O⟩ (bV A) (cZ A) fun j ah=>go ?_
 obtain⟨hj,a0⟩:=ah
 refine aW A A A A A A (fun ai=>go ?_) (fun ai=>go ?_)
 refine aN A (cV 1 A A A A (fun w e=>(Y.so.at (k:=x.toNat) O).below e.bel)) (aN A (aL (u:=jI (((g.so.getD (x.toNat) ir0).xs).getD j 0)) A A A (fun w e=>(Y.so.at (k:=x.toNat) O).below e.bel) (cJ (show _<((g.so.getD (x.toNat) ir0).xs).length by omega))) (go ?_))
 have J:(((g.so.getD (x.toNat) ir0).xs).getD j 0)∈srcI d x:=by rw[←G];exact dV O
 have B:=lH J
 have Z:D.getD (((g.so.getD (x.toNat) ir0).xs).getD j 0).toNat 0 = -1∨(0≤D.getD (((g.so.getD (x.toNat) ir0).xs).getD j 0).toNat 0∧D.getD (((g.so.getD (x.toNat) ir0).xs).getD j 0).toNat 0≤100000*(cs.length:Int)):=hD.rng (((g.so.getD (x.toNat) ir0).xs).getD j 0) B.1 O
 rcases eq_false_or_eq_true ((D.getD ((((g.so.getD (x.toNat) ir0).xs).getD j 0).toNat) 0) != (-1)) with X|X
 have a1:D.getD ((((g.so.getD (x.toNat) ir0).xs).getD j 0).toNat) 0≠-1:=bne_iff_ne.1 X
 have J:(((g.so.getD (x.toNat) ir0).xs).getD j 0)∈srcI d x:=by rw[←G];exact dV O
 have B:=lH J
 have Z:D.getD (((g.so.getD (x.toNat) ir0).xs).getD j 0).toNat 0 = -1∨(0≤D.getD (((g.so.getD (x.toNat) ir0).xs).getD j 0).toNat 0∧D.getD (((g.so.getD (x.toNat) ir0).xs).getD j 0).toNat 0≤100000*(cs.length:Int)):=hD.rng (((g.so.getD (x.toNat) ir0).xs).getD j 0) B.1 O
 refine bL 21 [[],[],[0,1],[2],[3],[4],[5],[5],[5,6,7],[5,8],[5],[5],[5,10,11],[5,12],[5,9,13],[5],[5],[5,15,16],[5,17],[5,14,18],[5,19]] [50,51,52,53,54,55,56,57,58,59,60,61,62,63,64,65,66,67,68,69,70] [U,jI (((g.so.getD (x.toNat) ir0).xs).getD j 0),elP U ((((g.so.getD (x.toNat) ir0).xs).getD j 0).toNat*1),jI (D.getD ((((g.so.getD (x.toNat) ir0).xs).getD j 0).toNat) 0),.bool true,.bool true,U,jI (((g.so.getD (x.toNat) ir0).xs).getD j 0),elP U ((((g.so.getD (x.toNat) ir0).xs).getD j 0).toNat*1),jI (D.getD ((((g.so.getD (x.toNat) ir0).xs).getD j 0).toNat) 0),cv,jI x,elP cv (x.toNat*1),jI (cs.getD (x.toNat) 0),jI ((D.getD ((((g.so.getD (x.toNat) ir0).xs).getD j 0).toNat) 0)+(cs.getD (x.toNat) 0)),U,jI x,elP U (x.toNat*1),jI (D.getD (x.toNat) 0),.bool (((D.getD ((((g.so.getD (x.toNat) ir0).xs).getD j 0).toNat) 0)+(cs.getD (x.toNat) 0))==(D.getD (x.toNat) 0)),.bool (((D.getD ((((g.so.getD (x.toNat) ir0).xs).getD j 0).toNat) 0)+(cs.getD (x.toNat) 0))==(D.getD (x.toNat) 0))] F A ?_ ?_
 exact⟨aJ,aJ,aJ,aJ,aJ,aJ,aJ,aJ,aJ,aJ,aJ,aJ,aJ,aJ,aJ,aJ,aJ,aJ,aJ,aJ,aJ,trivial⟩
 simp only[drop_succ_cons,drop_zero]
 refine go ?_
 refine fO A (fun a2=>go ?_) (fun a2=>go ?_)
 have aa:(D.getD ((((g.so.getD (x.toNat) ir0).xs).getD j 0).toNat) 0)+(cs.getD (x.toNat) 0)=D.getD (x.toNat) 0:=beq_iff_eq.1 a2
 refine cH A (aH (z:=jI 0) (s:=1) (cs:=(mI [((g.so.getD (x.toNat) ir0).xs).getD j 0])) A z8 A V A F A) fun b5=>go ?_
 refine bT (i:=0) (z:=jI 0) (bytes:=8) A A A A z8 F A A A A (aB 1 A) (bI _) AD (bK ([((g.so.getD (x.toNat) ir0).xs).getD j 0]) xs) (cB ([((g.so.getD (x.toNat) ir0).xs).getD j 0]) xs) (fun _=>A) fun aj=>go ?_
 exact aQ (((g.so.getD (x.toNat) ir0).xs).getD j 0) aj (([((g.so.getD (x.toNat) ir0).xs).getD j 0])++xs) ⟨B,E.more a9 J B.1 O (by unfold gI;omega) (by unfold gI;omega) (by unfold gI;omega)⟩ (by unfold gI;omega) (bV A) (eA [0,1] A)
 have aa:(D.getD ((((g.so.getD (x.toNat) ir0).xs).getD j 0).toNat) 0)+(cs.getD (x.toNat) 0)≠D.getD (x.toNat) 0:=beq_eq_false_iff_ne.1 a2
 exact dR (j+1) ⟨O,fun i hi=>by by_cases a3:i=j;(subst a3;omega);exact a0 i O⟩ O (bV A) (cZ A)
 have a1:D.getD ((((g.so.getD (x.toNat) ir0).xs).getD j 0).toNat) 0 = -1:=(bne_eq_false_iff_eq.1 X)
 have J:(((g.so.getD (x.toNat) ir0).xs).getD j 0)∈srcI d x:=by rw[←G];exact dV O
 have B:=lH J
 have Z:D.getD (((g.so.getD (x.toNat) ir0).xs).getD j 0).toNat 0 = -1∨(0≤D.getD (((g.so.getD (x.toNat) ir0).xs).getD j 0).toNat 0∧D.getD (((g.so.getD (x.toNat) ir0).xs).getD j 0).toNat 0≤100000*(cs.length:Int)):=hD.rng (((g.so.getD (x.toNat) ir0).xs).getD j 0) B.1 O
 refine bL 21 [[],[],[0,1],[2],[3],[4],[5],[5],[5],[5],[5],[5],[5],[5],[5],[5],[5],[5],[5],[5],[5,19]] [50,51,52,53,54,55,56,57,58,59,60,61,62,63,64,65,66,67,68,69,70] [U,jI (((g.so.getD (x.toNat) ir0).xs).getD j 0),elP U ((((g.so.getD (x.toNat) ir0).xs).getD j 0).toNat*1),jI (D.getD ((((g.so.getD (x.toNat) ir0).xs).getD j 0).toNat) 0),.bool false,.bool false,undef,undef,undef,undef,undef,undef,undef,undef,undef,undef,undef,undef,undef,undef,.bool false] F A ?_ ?_
 exact⟨aJ,aJ,aJ,aJ,aJ,aJ,aJ,aJ,aJ,aJ,aJ,aJ,aJ,aJ,aJ,aJ,aJ,aJ,aJ,aJ,aJ,trivial⟩
 simp only[drop_succ_cons,drop_zero]
 refine go ?_
 exact dR (j+1) ⟨O,fun i hi=>by by_cases a3:i=j;(subst a3;omega);exact a0 i O⟩ O (bV A) (cZ A)
 refine cH A (aH (z:=jI 0) (s:=1) (cs:=(mI [x])) A z8 A V A F A) fun b6=>go ?_
 refine bT (i:=0) (z:=jI 0) (bytes:=8) A A A A z8 F A A A A (aB 1 A) (bI _) AD (bK ([x]) xs) (cB ([x]) xs) (fun _=>A) fun b7=>go ?_
 exfalso
 obtain⟨q9,ak,al,am⟩:=hD.tig x a6 O a9 E.pos
 obtain⟨j9,an,e9⟩:=iF ak
 exact a0 j9 (by rw[←G] at an;omega) (by rw[G,e9];unfold gI at al am;omega)
theorem Fw (d:Dev) (b:Nat) (g:Gr) (cs J:List Int) (cv kv:Value) (M:Int) (w:World) (hg:RdsGr w b g) (ah:GrOk d (allI d).toNat g) (hd:devB d=true) (ai:RdsW w cv 1 cs.length (cs.map (Value.int .i64))) (a0:(cs.length:Int)=allI d) (a1:∀k,k<cs.length→1≤cs.getD k 0∧cs.getD k 0≤100000) (a2:RdsW w kv 1 J.length (J.map (Value.int .i64))) (b5:J.length≤1000) (a3:∀q∈J,0≤q∧q<allI d) (aj:0≤M∧M<allI d) (b6:5≤M % perI d) :
   Calls Tryz.prog 39 #[.pointer (some ⟨b,0,none⟩),cv,.int .i64 M,kv] w (Ret w (fun v' post=>∃(r:Rt) (ok:Bool),v'=.tuple #[r.agg,.bool ok]∧post=[rtE r]∧(r.nv.oneCell'=true∧r.fv.oneCell'=true)∧(ok=true→GInv d M J J.length r))):=by
 obtain⟨b7,b8⟩:=eM hd
 refine aY (N:=83) (args:=[pI b,cv,jI M,kv]) Tryz.func39 A A (dW ?_)
 refine cU A (bY (z:=.agg #[.slice none 0 0,.slice none 0 0]) A A) fun X=>go ?_
 refine cH A (aH (z:=jI 0) (s:=1) (cs:=(mI [M])) A z8 A V A F A) fun g2=>?_
 refine cH A (aH (z:=jI 0) (s:=1) (cs:=(mI [0])) A z8 A V A F A) fun g3=>?_
 refine aN A (dG (cs:=#[.slice (some ⟨g2,0,none⟩) 1 1,.slice (some ⟨g3,0,none⟩) 1 1]) A A A) (cU A (bY (z:=.agg #[.slice none 0 0,.slice none 0 0]) A A) fun b4=>?_)
 refine cA (cs':=#[.slice (some ⟨g2,0,none⟩) 1 1,.slice (some ⟨g3,0,none⟩) 1 1]) (i:=0) (off:=0) (us:=[.slice (some ⟨g2,0,none⟩) 1 1,.slice (some ⟨g3,0,none⟩) 1 1]) A A A A A A A (aC A (aC A bH)) A A A (go ?_)
 refine iG (α:=Nat) (β:=Rt) [0,1,2,3,8,9,10,23,24] A (fun i r=>[boxE b4 #[r.nv,r.fv] 36,rI9 3 r.fv r.fs,rI9 3 r.nv r.ns,boxE X #[.slice none 0 0,.slice none 0 0] 36]) (fun i r=>[(25,jI (i:Int))]) (fun i r=>i≤J.length∧GInv d M J i r) (fun i r=>J.length-i) 0 (Rt.mk (.slice (some ⟨g2,0,none⟩) 1 1) (.slice (some ⟨g3,0,none⟩) 1 1) ([M]) ([0])) ⟨O,⟨tg_one aj,fun j hj=>absurd hj O,fun x hx h5=>by rw[List.mem_singleton.1 hx] at h5;omega⟩⟩ (bV A) (cZ A) fun i r ak=>go ?_
 obtain⟨hi,E⟩:=ak
 have b9:=E.tr.len
 have ba:=E.tr.l0
 have bb:=E.tr.l1
 refine aW A A A A A A (fun h6=>go ?_) (fun h6=>go ?_)
 refine aN A (cV 1 A A A A (aE a2)) (aN A (lD A A A (aE a2)) (go ?_))
 refine cM A (aF A A (fun w K=>aI (lS r.ns (J.getD i 0) _ w ((aB 2 A) w K) (by first|omega|simp)))) (bD (fun h7=>go ?_) (fun h7=>go ?_))
 exact bO (i+1) (Rt.mk r.nv r.fv r.ns r.fs) ⟨O,E.same A I⟩ O (bV A) (cZ A)
 refine fF A A A (aF A A (fun w K=>wD d b g cs r.ns _ _ (J.getD i 0) w (hg.below K.bel) ah hd ((aE ai) w K) a0 a1 ((aB 2 A) w K) O E.tr.rng (a3 _ (dV O)))) fun v8 p9 al=>?_
 obtain⟨xs,rfl,a4,a5,au⟩:=al
 refine go ?_
 refine aN A (lN A z8 A A (aB 0 A) a4) ?_
 refine bD (fun am=>go ?_) (fun am=>go ?_)
 refine aN A (dG (cs:=#[.slice none 0 0,.slice none 0 0]) A A A) ?_
 refine cA (cs':=#[.slice none 0 0,.slice none 0 0]) (i:=4) (off:=0) (us:=[.slice none 0 0,.slice none 0 0]) A A A A A A A (aC A (aC A bH)) A A A (go ?_)
 refine fH [rowE 3 1 (.slice none 0 0) (([]:List Int).length) (mI ([]:List Int)),rowE 3 1 (.slice none 0 0) (([]:List Int).length) (mI ([]:List Int)),rI9 3 v8 xs,boxE b4 #[r.nv,r.fv] 36,rI9 3 r.fv r.fs,rI9 3 r.nv r.ns,boxE X #[.slice none 0 0,.slice none 0 0] 36] (fun w K=>(K.nilRow 3 1).nilRow 3 1) ?_
 refine fH [rtE (Rt.mk (.slice none 0 0) (.slice none 0 0) [] []),rI9 3 v8 xs,boxE b4 #[r.nv,r.fv] 36,rI9 3 r.fv r.fs,rI9 3 r.nv r.ns,boxE X #[.slice none 0 0,.slice none 0 0] 36] (fun w K=>Mem.big (ps:=[rowE 3 1 (.slice none 0 0) (([]:List Int).length) (mI ([]:List Int)),rowE 3 1 (.slice none 0 0) (([]:List Int).length) (mI ([]:List Int))]) K) ?_
 exact eQ (rs:=[.cell 8 36,.tmp 9]) (vs:=[.agg #[.slice none 0 0,.slice none 0 0],.bool false]) (post:=[rtE (Rt.mk (.slice none 0 0) (.slice none 0 0) [] [])]) A ⟨⟨X,0,[.slice none 0 0,.slice none 0 0],A,A,F,F,aM 5 A 0 A⟩,A,trivial⟩ A (eA [0] A) ⟨(Rt.mk (.slice none 0 0) (.slice none 0 0) [] []),false,A,A,⟨A,A⟩,fun h=>by cases h⟩
 obtain⟨D2,x0,an,a6,G⟩:=a5 (of_decide_eq_false I)
 have a7:=a3 _ (dV (show i<J.length by omega))
 have bc:=an.rng (J.getD i 0) a7.1 O
 have bd:=G.pos
 have be:=G.l0
 have bf:=G.len
 refine iG (α:=Nat) (β:=Int) [0,1,2,3,8,9,10,12,13,23,24,25,26,32,40,43,44] A (fun q f=>[rI9 3 v8 xs,boxE b4 #[r.nv,r.fv] 36,rI9 3 r.fv r.fs,rI9 3 r.nv r.ns,boxE X #[.slice none 0 0,.slice none 0 0] 36]) (fun q f=>[(14,jI f),(45,jI (q:Int))]) (fun q f=>q≤r.ns.length∧((f=0∧∀i,i<q→r.ns.getD i 0≠x0)∨((0≤f∧f<q)∧r.ns.getD f.toNat 0=x0))) (fun q f=>r.ns.length-q) 0 0 ⟨O,.inl ⟨A,fun i hi=>absurd hi O⟩⟩ (bV A) (cZ A) fun q f a8=>go ?_
 obtain⟨hq,hf⟩:=a8
 refine aW A A A A A A (fun ao=>go ?_) (fun ao=>go ?_)
 refine aN A (cV 1 A A A A (aB 3 A)) (aN A (lD A A A (aB 3 A)) (go ?_))
 refine aN A (cV 1 A A A A (aB 0 A)) (aN A (aL (u:=jI (xs.getD 0 0)) A A A (aB 0 A) (cJ (show _<xs.length by omega))) ?_)
 refine bZ A A A A A A (fun ap=>go ?_) (fun ap=>go ?_)
 exact(bO (q+1) (q:Int) ⟨O,.inr ⟨O,by rw[Int.toNat_natCast,←G.first];assumption⟩⟩ O (bV rfl) (cZ rfl))
 exact bO (q+1) f ⟨O,hf.imp (fun h=>⟨h.1,fun i hi=>by by_cases e:i=q;(subst e;rw[←G.first];assumption);exact h.2 i O⟩) (fun h=>⟨O,h.2⟩)⟩ O (bV rfl) (cZ rfl)
 refine aN A (nS A z8 A A A (aB 0 A) O O) (aN A (eV A A A (pK (aB 0 A) O)) (go ?_))
 have Y:(0≤f∧f<r.ns.length)∧r.ns.getD f.toNat 0=x0:=by
     rcases hf with h|h
     · exfalso;obtain⟨k9,bg,e9⟩:=iF a6;exact h.2 k9 O e9
     · exact⟨O,h.2⟩
 refine fP (α:=Nat) (β:=Rt) (γ:=Int) [0,1,2,3,8,9,10,12,13,23,24,25,26,32,40,46,58,59] A (fun j B U=>[rI9 3 v8 xs,boxE b4 #[B.nv,B.fv] 36,rI9 3 B.fv B.fs,rI9 3 B.nv B.ns,boxE X #[.slice none 0 0,.slice none 0 0] 36]) (fun j B U=>[(14,jI U),(60,jI (j:Int))]) (fun j B U=>j≤(xs.drop 1).length∧GStep d M xs r j B U) (fun j B U=>(xs.drop 1).length-j) 0 (Rt.mk r.nv r.fv r.ns r.fs) f ⟨O,GStep.start E Y.1.1 Y.1.2 (Y.2.trans G.first.symm)⟩ (bV A) (cZ A) fun j B U a9=>go ?_
 obtain⟨hj,D⟩:=a9
 have aw:(List.drop (Int.toNat 1) xs).length=(xs.drop 1).length:=rfl
 have ax:(xs.drop 1).length=xs.length-1:=length_drop
 have ay:=D.tr.len
 have az:=D.tr.l0
 have b0:=D.tr.l1
 have b2:=D.f0
 have b3:=D.f1
 refine aW A A A A A A (fun aq=>?_) (fun aq=>go ?_)
 refine(cP (bB (aG (aR A (gP (bB (aG (bS (aG (bP (aN A (cV 1 A A A A (pK (aB 0 A) O)) (aN A (aL (u:=jI ((xs.drop (1:Int).toNat).getD j 0)) A A A (pK (aB 0 A) O) (cJ (show _<(xs.drop (1:Int).toNat).length by omega))) (aS 1 A (go ?_))))))))))))))
 refine cH A (aH (z:=jI 0) (s:=1) (cs:=(mI [(xs.drop (1:Int).toNat).getD j 0])) A z8 A V A F A) fun bh=>?_
 refine bT (i:=4) (z:=jI 0) (bytes:=8) A A A A z8 F A A A A (aB 0 A) (bI _) AD (bK B.ns ([(xs.drop (1:Int).toNat).getD j 0])) (cB B.ns ([(xs.drop (1:Int).toNat).getD j 0])) (fun _=>A) fun Z=>go ?_
 refine eE (i:=4) A (fun aa=>?_)
 refine gB (i:=2) (cs':=#[Z,B.fv]) A A A A A A aa A A A A (go ?_)
 refine cH A (aH (z:=jI 0) (s:=1) (cs:=(mI [U])) A z8 A V A F A) fun bi=>?_
 refine bT (i:=4) (z:=jI 0) (bytes:=8) A A A A z8 F A A A A (aB 0 A) (bI _) AD (bK B.fs ([U])) (cB B.fs ([U])) (fun _=>A) fun ab=>go ?_
 refine eE (i:=4) A (fun ac=>?_)
 refine gB (i:=3) (cs':=#[Z,ab]) A A A A A A ac A A A A (go ?_)
 refine aN A (nQ A A A AN) (go ?_)
 exact aQ (j+1) (Rt.mk Z ab (B.ns++([(xs.drop (1:Int).toNat).getD j 0])) (B.fs++([U]))) (((B.ns++([(xs.drop (1:Int).toNat).getD j 0])).length:Int)-1) ⟨O,D.next a0 a1 G A O _ _⟩ O (bV A) (eA [2,0,0,0,0] A)
 exact bO (i+1) (Rt.mk B.nv B.fv B.ns B.fs) ⟨O,D.done E G a6 O O A⟩ O (bV A) (eA [1,0,0,0] A)
 refine eE (i:=1) A (fun ad=>?_)
 refine eE (i:=2) A (fun ae=>?_)
 refine cA (cs':=#[r.nv,r.fv]) (i:=3) (off:=0) (us:=[r.nv,r.fv]) A A A A A A A (aC ae (aC ad bH)) A A A (go ?_)
 have ar:i=J.length:=O
 subst ar
 refine uX (i:=2) A (fun af=>?_)
 refine uX (i:=1) A (fun ag=>?_)
 refine bN 4 [3,0,1,2] A A V ?_
 refine fH [rtE r,boxE b4 #[r.nv,r.fv] 36,boxE X #[r.nv,r.fv] 36] (fun w K=>Mem.big (ps:=[rI9 3 r.nv r.ns,rI9 3 r.fv r.fs]) K) ?_
 exact eQ (rs:=[.cell 8 36,.tmp 9]) (vs:=[.agg #[r.nv,r.fv],.bool true]) (post:=[rtE r]) A ⟨⟨X,0,[r.nv,r.fv],A,A,F,F,aM 2 A 0 A⟩,A,trivial⟩ A (eA [0] A) ⟨r,true,A,A,⟨af,ag⟩,fun _=>E⟩
theorem sY (d:Dev) (cs:List Int) (h:Value) (w:World) (B:devB d=true) (e:RdsW w h 1 cs.length (cs.map (Value.int .i64))) (U:(cs.length:Int)=allI d) (D:∀k,k<cs.length→1≤cs.getD k 0∧cs.getD k 0≤100000) :
   Calls Tryz.prog 30 #[.agg #[.int .i64 d.W,.int .i64 d.H,.int .i64 d.T,.int .i64 d.R],h] w (Ans w (.bool true)):=by
 obtain⟨X,Y⟩:=eM B
 refine aY (N:=28) (args:=[.agg #[jI d.W,jI d.H,jI d.T,jI d.R],h]) Tryz.func30 A A (dW ?_)
 refine cU A (cE A A) fun Z=>go ?_
 refine cM A (aF A A (fun w G=>aI (eT d w))) (bD (fun J=>go ?_) (fun J=>absurd ((B).symm.trans J) V))
 refine cM A (aF A A (fun w G=>aI (eX d B w))) (jY A A A A A A (fun K=>absurd K O) (fun K=>go ?_))
 refine lC (α:=Nat) [0,1,2,4,15] A (fun i=>[boxE Z #[jI d.W,jI d.H,jI d.T,jI d.R] 25]) (fun i=>[(5,jI (i:Int))]) (fun i=>i≤cs.length) (fun i=>cs.length-i) 0 (Nat.zero_le _) (bV A) (cZ A) fun i E=>go ?_
 have hi:=E
 refine aW A A A A A A (fun h5=>go ?_) (fun h5=>go ?_)
 refine aN A (cV 1 A A A A (aE e)) ?_
 obtain⟨a0,a1⟩:=D i O
 refine aN A (lD A A A (aE e)) (cM A (aF A A (fun w G=>aI (pP (cs.getD i 0) 1 100000 w))) ?_)
 refine bD (fun M=>go ?_) (fun M=>absurd (((gL O O)).symm.trans M) V)
 exact dR (i+1) O O (bV A) (cZ A)
 exact aT A A A
open Go.RowKit
theorem Id {a b c:Int}(h:inR a b c=false):¬(b≤a∧a≤c):=fun q=>by rw[(dA _ _ _).2 q] at h;cases h
theorem lF (d:Dev) (pl:List Int) (e:Value) (c:Cn) (w:World) (D:RdsW w e 1 pl.length (pl.map (Value.int .i64))) (E:pl.length≤64) (J : -1000≤c.sp) (K:c.sp≤1000) (M:c.kv.oneCell'=true) :
   Calls Tryz.prog 36 #[.agg #[.int .i64 d.W,.int .i64 d.H,.int .i64 d.T,.int .i64 d.R],e,.agg #[.int .i64 c.nd,.int .i64 c.sb,.int .i64 c.sp,c.kv]] w (Ans w (.int .i64 (srcN d pl c))):=by
 refine aY (N:=26) (args:=[.agg #[jI d.W,jI d.H,jI d.T,jI d.R],e,.agg #[jI c.nd,jI c.sb,jI c.sp,c.kv]]) Tryz.func36 A A (dW ?_)
 refine cU A (cE A A) fun U=>?_
 refine cU A (cE A A) fun h=>go ?_
 refine cM A (aF A A (fun w G=>aI (hH (cS _ _ _ w)))) (bD (fun B=>go ?_) (fun B=>go ?_))
 obtain⟨X,Y⟩:=(dA _ _ _).1 B
 refine bL 11 [[],[],[],[2],[3],[1,4],[5],[],[7],[8],[0,6,9]] [15,16,17,18,19,20,21,22,23,24,25] [.agg #[jI d.W,jI d.H,jI d.T,jI d.R],e,.pointer (some ⟨h,0+1,none⟩),.pointer (some ⟨h,0+1+0,none⟩),jI c.sb,elP e (c.sb.toNat*1),jI (pl.getD (c.sb.toNat) 0),.pointer (some ⟨h,0+1,none⟩),.pointer (some ⟨h,0+1+1,none⟩),jI c.sp,jI (outPinI d (pl.getD (c.sb.toNat) 0) c.sp)] F A ?_ ?_
 exact⟨aJ,aJ,aJ,aJ,aJ,aJ,aJ,aJ,aJ,aJ,.inl ⟨A,aF A A (fun w G=>aI (uJ d (pl.getD (c.sb.toNat) 0) c.sp w O O))⟩,trivial⟩
 simp only[drop_succ_cons,drop_zero]
 refine go ?_
 exact aT A A (by unfold srcN;first|(rw[if_pos ⟨O,O⟩];done)|(rw[if_pos ⟨O,O⟩];rfl)|rw[if_neg O])
 have Z:=Id B
 exact aT A A (by unfold srcN;first|(rw[if_pos ⟨O,O⟩];done)|(rw[if_pos ⟨O,O⟩];rfl)|rw[if_neg O])
theorem lX (d:Dev) (pl:List Int) (E:Value) (c:Cn) (w:World) (a1:RdsW w E 1 pl.length (pl.map (Value.int .i64))) (a2:pl.length≤64) (hc:RdsW w c.kv 2 c.ks.length (c.ks.flatMap pnC)) (a3:c.ks.length≤120) (hb:∀k,k<c.ks.length→-1000≤(c.ks.getD k pn0).p∧(c.ks.getD k pn0).p≤1000) :
   Calls Tryz.prog 37 #[.agg #[.int .i64 d.W,.int .i64 d.H,.int .i64 d.T,.int .i64 d.R],E,.agg #[.int .i64 c.nd,.int .i64 c.sb,.int .i64 c.sp,c.kv]] w (Ret w (fun v' post=>post=[rI9 3 v' (snkG d pl c.ks)]∧((snkG d pl c.ks).length=0→v'=.slice none 0 0))):=by
 refine aY (N:=42) (args:=[.agg #[jI d.W,jI d.H,jI d.T,jI d.R],E,.agg #[jI c.nd,jI c.sb,jI c.sp,c.kv]]) Tryz.func37 A A (dW ?_)
 refine cU A (cE A A) fun M=>?_
 refine cU A (cE A A) fun U=>go ?_
 refine nR 3 1 ?_
 refine fP (α:=Nat) (β:=Value) (γ:=List Int) [0,1,2,3,5,6,12,13] A (fun i u zs=>[rI9 3 u zs,boxE U #[jI c.nd,jI c.sb,jI c.sp,c.kv] 44,boxE M #[jI d.W,jI d.H,jI d.T,jI d.R] 25]) (fun i u zs=>[(7,u),(14,jI (i:Int))]) (fun i u zs=>i≤c.ks.length∧(∀k,k<i→SnkOk d pl (c.ks.getD k pn0))∧(i=0→u=.slice none 0 0)∧zs=snkL d pl c.ks i) (fun i u zs=>c.ks.length-i) 0 _ [] ⟨Nat.zero_le _,fun k J=>O,fun _=>A,A⟩ (bV A) (cZ A) fun i u zs X=>go ?_
 obtain⟨hi,B,Y,Z⟩:=X
 have a4:zs.length=i:=by rw[Z,tF _ _ hi]
 refine aW A A A A A A (fun h5=>go ?_) (fun h5=>go ?_)
 refine aN A (cV 2 A A A A (aE hc)) ?_
 refine aN A (cO (us:=[jI ((c.ks.getD i pn0).b),jI ((c.ks.getD i pn0).p)]) A A A A (aE hc) O A (dQ pnC 2 (fun _=>A) c.ks pn0 (show i<_ by omega) A)) (cU A (bY (z:=.agg #[jI 0,jI 0]) A A) fun K=>?_)
 refine cA (cs':=#[jI ((c.ks.getD i pn0).b),jI ((c.ks.getD i pn0).p)]) (i:=0) (off:=0) (us:=[jI ((c.ks.getD i pn0).b),jI ((c.ks.getD i pn0).p)]) A A A A A A A (aC A (aC A bH)) A A A (go ?_)
 obtain⟨p1,p2⟩:=hb i O
 refine cM A (aF A A (fun w G=>aI (hH (cS _ _ _ w)))) (bD (fun h7=>go ?_) (fun h7=>go ?_))
 obtain⟨c1,c2⟩:=(dA _ _ _).1 h7
 refine bL 9 [[],[],[],[2],[1,3],[4],[],[6],[0,5,7]] [25,26,27,28,29,30,31,32,33] [.agg #[jI d.W,jI d.H,jI d.T,jI d.R],E,.pointer (some ⟨K,0+0,none⟩),jI ((c.ks.getD i pn0).b),elP E (((c.ks.getD i pn0).b).toNat*1),jI (pl.getD (((c.ks.getD i pn0).b).toNat) 0),.pointer (some ⟨K,0+1,none⟩),jI ((c.ks.getD i pn0).p),jI (inPinI d (pl.getD (((c.ks.getD i pn0).b).toNat) 0) ((c.ks.getD i pn0).p))] F A ?_ ?_
 exact⟨aJ,aJ,aJ,aJ,aJ,aJ,aJ,aJ,.inl ⟨A,aF A A (fun w G=>aI (Fu d (pl.getD (((c.ks.getD i pn0).b).toNat) 0) ((c.ks.getD i pn0).p) w O O))⟩,trivial⟩
 simp only[drop_succ_cons,drop_zero]
 refine go ?_
 refine aW A A A A A A (fun h8=>go ?_) (fun h8=>go ?_)
 refine fH [rowE 3 1 (.slice none 0 0) (([]:List Int).length) (mI ([]:List Int)),boxE K #[jI ((c.ks.getD i pn0).b),jI ((c.ks.getD i pn0).p)] 41,rI9 3 u zs,boxE U #[jI c.nd,jI c.sb,jI c.sp,c.kv] 44,boxE M #[jI d.W,jI d.H,jI d.T,jI d.R] 25] (fun w G=>G.nilRow 3 1) ?_
 have D:snkG d pl c.ks=[]:=kK (i:=i) O (fun q=>by obtain⟨⟨q1,q2⟩,q3⟩:=q;omega)
 exact bM (post:=[rowE 3 1 (.slice none 0 0) (([]:List Int).length) (mI ([]:List Int))]) rfl rfl (eA [0] rfl) ⟨by rw[D],fun _=>rfl⟩
 refine cH A (aH (z:=jI 0) (s:=1) (cs:=(mI [inPinI d (pl.getD (((c.ks.getD i pn0).b).toNat) 0) ((c.ks.getD i pn0).p)])) A z8 A V A F A) fun g9=>?_
 refine bT (i:=2) (z:=jI 0) (bytes:=8) A A A A z8 F A A A A (aB 0 A) (bI _) AD (bK zs ([inPinI d (pl.getD (((c.ks.getD i pn0).b).toNat) 0) ((c.ks.getD i pn0).p)])) (cB zs ([inPinI d (pl.getD (((c.ks.getD i pn0).b).toNat) 0) ((c.ks.getD i pn0).p)])) (fun _=>A) fun a0=>go ?_
 exact aQ (i+1) a0 (zs++([inPinI d (pl.getD (((c.ks.getD i pn0).b).toNat) 0) ((c.ks.getD i pn0).p)])) ⟨O,fun k J=>by rcases Nat.lt_succ_iff_lt_or_eq.1 J with h|rfl<;>first|exact B k h|exact⟨⟨O,O⟩,O⟩,fun e=>O,by rw[Z];exact zR d pl O⟩ O (bV rfl) (eA [2,0,0] rfl)
 have c3:=Id h7
 refine fH [rowE 3 1 (.slice none 0 0) (([]:List Int).length) (mI ([]:List Int)),boxE K #[jI ((c.ks.getD i pn0).b),jI ((c.ks.getD i pn0).p)] 41,rI9 3 u zs,boxE U #[jI c.nd,jI c.sb,jI c.sp,c.kv] 44,boxE M #[jI d.W,jI d.H,jI d.T,jI d.R] 25] (fun w G=>G.nilRow 3 1) ?_
 have D:snkG d pl c.ks=[]:=kK (i:=i) O (fun q=>by obtain⟨⟨q1,q2⟩,q3⟩:=q;omega)
 exact bM (post:=[rowE 3 1 (.slice none 0 0) (([]:List Int).length) (mI ([]:List Int))]) rfl rfl (eA [0] rfl) ⟨by rw[D],fun _=>rfl⟩
 exact bM (post:=[rI9 3 u zs]) rfl rfl (eA [0] rfl) ⟨by rw[mM (fun k J=>B k O),←show i=c.ks.length by omega,Z],fun h=>Y (by rw[mM (fun k J=>B k O),tF _ _ (Nat.le_refl _)] at h;omega)⟩
def AscP (ws:List Int) (i:Nat):Prop:=∀k,k<i→0<k→ws.getD (k-1) 0<ws.getD k 0
instance (ws:List Int) (i:Nat):Decidable (AscP ws i):=by unfold AscP;exact inferInstance
theorem AscP.snoc {ws:List Int}{i:Nat}(h:AscP ws (i+1)) (B:ws.getD i 0<ws.getD (i+1) 0):AscP ws (i+2):=fun k E D=>by
  by_cases e:k=i+1
  · subst e;exact B
  · exact h k O D
theorem Ez {ws:List Int}{i:Nat}(e:i+1<ws.length) (h:¬ws.getD i 0<ws.getD (i+1) 0):¬AscP ws ws.length:=fun q=>h (q (i+1) e O)
theorem zQ (ws:List Int) (e:Value) (w:World) (U:RdsW w e 1 ws.length (ws.map (Value.int .i64))) (X:ws.length≤1000000) :
   Calls Tryz.prog 52 #[e] w (Ans w (.bool (decide (AscP ws ws.length)))):=by
 refine aY (N:=20) (args:=[e]) Tryz.func52 A A (cF 1 A (aG (cF 1 A (go ?_))))
 refine lC (α:=Nat) [0,2] A (fun i=>[]) (fun i=>[(3,jI ((i:Int)+1))]) (fun i=>i≤ws.length∧AscP ws (i+1)) (fun i=>ws.length-i) 0 ⟨Nat.zero_le _,fun k M B=>O⟩ (bV A) (.slnil) fun i D=>go ?_
 obtain⟨Z,h⟩:=D
 have E:((i:Int)+1-1).toNat=i:=O
 have G:((i:Int)+1).toNat=i+1:=O
 refine aW A A A A A A (fun Y=>go ?_) (fun Y=>go ?_)
 refine bL 10 [[],[],[1],[0,2],[3],[],[],[5,6],[7],[4,8]] [10,11,12,13,14,15,16,17,18,19] [e,jI ((i:Int)+1),jI (((i:Int)+1)-1),elP e ((((i:Int)+1)-1).toNat*1),jI (ws.getD ((((i:Int)+1)-1).toNat) 0),e,jI ((i:Int)+1),elP e ((((i:Int)+1)).toNat*1),jI (ws.getD ((((i:Int)+1)).toNat) 0),.bool (decide (ws.getD ((((i:Int)+1)).toNat) 0≤ws.getD ((((i:Int)+1)-1).toNat) 0))] F A ?_ ?_
 exact⟨aJ,aJ,aJ,aJ,aJ,aJ,aJ,aJ,aJ,aJ,trivial⟩
 simp only[drop_succ_cons,drop_zero]
 refine go ?_
 refine fO A (fun J=>go ?_) (fun J=>go ?_)
 have K:ws.getD ((((i:Int)+1)).toNat) 0≤ws.getD ((((i:Int)+1)-1).toNat) 0:=of_decide_eq_true J
 exact aT rfl rfl (by first|(rw[decide_eq_true (show AscP ws ws.length from fun k M B=>h k O B)];done)|(rw[decide_eq_false (Ez (i:=i) O (by simp only[E,G] at *;omega))];done))
 have K:¬(ws.getD ((((i:Int)+1)).toNat) 0≤ws.getD ((((i:Int)+1)-1).toNat) 0):=of_decide_eq_false J
 exact dR (i+1) ⟨O,h.snoc (by simp only[E,G] at *;omega)⟩ O (bV A) (.slnil)
 exact aT rfl rfl (by first|(rw[decide_eq_true (show AscP ws ws.length from fun k M B=>h k O B)];done)|(rw[decide_eq_false (Ez (i:=i) O (by simp only[E,G] at *;omega))];done))
theorem Bu {d:Dev}{ws:List Int}(h:¬AscP ws ws.length):¬WsP d ws ws.length:=fun q=>h fun k e B=>(q k e).2 B
theorem lG (d:Dev) (ws:List Int) (wv:Value) (w:World) (hws:RdsW w wv 1 ws.length (ws.map (Value.int .i64))) (hwl:ws.length≤1000000) :
   Calls Tryz.prog 21 #[.agg #[.int .i64 d.W,.int .i64 d.H,.int .i64 d.T,.int .i64 d.R],wv] w (Ans w (.bool (decide (WsP d ws ws.length)))):=by
 refine aY (N:=21) (args:=[.agg #[jI d.W,jI d.H,jI d.T,jI d.R],wv]) Tryz.func21 A A (dW ?_)
 refine cU A (cE A A) ?_
 intro b1
 refine bG 1 A (aG (aG (cN 1 A ?_)))
 refine cM A (aF A A (fun w hm=>aI (zQ ws _ w (hws.below hm.bel) hwl))) (bD (fun h2=>?_) (fun h2=>?_))
 refine bG 1 A (aV A (eC (aG (aG (cN 1 A (aN A (eV A A A (aE hws)) (aS 1 A (?_))))))))
 refine dL (bS ?_)
 refine lC (α:=Nat) [0,1,2,4,9,10,11] A (fun i=>[boxE b1 #[jI d.W,jI d.H,jI d.T,jI d.R] 25]) (fun i=>[(12,jI (i:Int))]) (fun i=>i≤ws.length∧∀k,k<i→isWireI d (ws.getD k 0)=true) (fun i=>ws.length-i) 0 ⟨Nat.zero_le _,fun k hk=>O⟩ (bV A) (cZ A) ?_
 intro i hi3
 obtain⟨hi,hap⟩:=hi3
 refine dW ?_
 refine aW A A A A A A (fun h4=>?_) (fun h4=>?_)
 refine dL (tcQ A (eC (jR (dW (aN A (cV 1 A A A A (aE hws)) (aN A (lD A A A (aE hws)) (aS 1 A ?_)))))))
 refine dL (dW (aN A (aP (cs:=[jI d.W,jI d.H,jI d.T,jI d.R]) A A A A A (aM 0 A 0 A)) (aS 1 A ?_)))
 refine cM A (aF A A (fun w hm=>aI (Da d (ws.getD i 0) w))) (bD (fun h5=>?_) (fun h5=>?_))
 refine bG 1 A (jQ A (eB (bP (aN A (eY A A A) (eS 1 A ?_)))))
 exact dR (i+1) ⟨O,fun k hk=>by
   by_cases e:k=i
   · subst e;assumption
   · exact hap k O⟩ O (bV rfl) (cZ rfl)
 refine bG 1 A (aR A (cF 1 A ?_))
 refine cW (dE ?_)
 refine rR ?_
 refine dE (cK ?_)
 exact aT rfl rfl (by first|(rw[decide_eq_true (show WsP d ws ws.length from fun k hk=>⟨hap k O,fun h0=>(of_decide_eq_true I:AscP ws ws.length) k hk h0⟩)];done)|(rw[decide_eq_false (fun q=>by have:=(q i O).1;simp_all:¬WsP d ws ws.length)];done)|(rw[decide_eq_false (Bu (of_decide_eq_false I))];done))
 refine dL (fcQ A ?_)
 refine bW (fM ?_)
 refine aO (bB (cF 1 A ?_))
 exact cW (aT rfl rfl (by first|(rw[decide_eq_true (show WsP d ws ws.length from fun k hk=>⟨hap k O,fun h0=>(of_decide_eq_true I:AscP ws ws.length) k hk h0⟩)];done)|(rw[decide_eq_false (fun q=>by have:=(q i O).1;simp_all:¬WsP d ws ws.length)];done)|(rw[decide_eq_false (Bu (of_decide_eq_false I))];done)))
 refine bG 1 A (aR A (cF 1 A ?_))
 refine cW (cK ?_)
 exact aT rfl rfl (by first|(rw[decide_eq_true (show WsP d ws ws.length from fun k hk=>⟨hap k O,fun h0=>(of_decide_eq_true I:AscP ws ws.length) k hk h0⟩)];done)|(rw[decide_eq_false (fun q=>by have:=(q i O).1;simp_all:¬WsP d ws ws.length)];done)|(rw[decide_eq_false (Bu (of_decide_eq_false I))];done))
open Go.RowKit
theorem Co {d:Dev}{ws:List Int}{s:Int}{B e:List Bl}(h:BfsI d ws s e []) (G:0≤s) (J:s<allI d) (K:¬s∈ws) (M:∀x:Int,0≤x→x<allI d→((B.getD x.toNat bl0).b=true↔x∈ws)) {x:Int}(D:0≤x) (E:x<allI d):((e.getD x.toNat bl0).b=true∧(B.getD x.toNat bl0).b=false)↔Rch d ws s x:=by
  rw[←h.iff G J K D E,Bool.eq_false_iff,ne_eq,M x D E];rfl
theorem Db (d:Dev) (b:Nat) (g:Gr) (pl:List Int) (pv:Value) (c:Cn) (ws:List Int) (wv:Value) (w:World) (hd:devB d=true) (hg:RdsGr w b g) (X:GrOk d (allI d).toNat g) (ab:RdsW w pv 1 pl.length (pl.map (Value.int .i64))) (ac:pl.length≤64) (hc:RdsW w c.kv 2 c.ks.length (c.ks.flatMap pnC)) (Y:CnB c) (ad:RdsW w wv 1 ws.length (ws.map (Value.int .i64))) (bc:ws.length≤100000) (a4:∀x∈ws,isWireI d x=true∧0≤x∧x<allI d) :
   Calls Tryz.prog 54 #[.agg #[.int .i64 d.W,.int .i64 d.H,.int .i64 d.T,.int .i64 d.R],.pointer (some ⟨b,0,none⟩),pv,.agg #[.int .i64 c.nd,.int .i64 c.sb,.int .i64 c.sp,c.kv],wv] w (Ans w (.bool (apB d pl c ws))):=by
 obtain⟨bd,be⟩:=eM hd
 have bf:(replicate (allI d).toNat bl0).length=(allI d).toNat:=length_replicate
 have bg:=mN d pl c.ks
 have b8:=Y.kl
 refine aY (N:=109) (args:=[.agg #[jI d.W,jI d.H,jI d.T,jI d.R],pI b,pv,.agg #[jI c.nd,jI c.sb,jI c.sp,c.kv],wv]) Tryz.func54 A A (dW ?_)
 refine cU A (cE A A) fun b1=>?_
 refine cU A (cE A A) fun b2=>go ?_
 refine eI A 8 [0,1,2,3,4,5,6,7] (List.take 8 _) (List.drop 8 _) [[],[],[],[0,1,2],[],[],[],[4,5,6]] [23,24,25,26,27,28,29,30] (fun i_ bh v_ p_=>match i_ with|0=>v_=.agg #[jI d.W,jI d.H,jI d.T,jI d.R]∧p_=[]|1=>v_=pv∧p_=[]|2=>v_=.agg #[jI c.nd,jI c.sb,jI c.sp,c.kv]∧p_=[]|3=>v_=jI (srcN d pl c)∧p_=[]|4=>v_=.agg #[jI d.W,jI d.H,jI d.T,jI d.R]∧p_=[]|5=>v_=pv∧p_=[]|6=>v_=.agg #[jI c.nd,jI c.sb,jI c.sp,c.kv]∧p_=[]|7=>(fun v' post=>post=[rI9 3 v' (snkG d pl c.ks)]∧((snkG d pl c.ks).length=0→v'=.slice none 0 0)) v_ p_|_=>True) (take_append_drop 8 _).symm F F A A ?_ ?_
 refine⟨?_,?_,?_,?_,?_,?_,?_,?_,trivial⟩
 intro vf pf J
 exact eH A (aD [5] A) (aK (aP (cs:=[jI d.W,jI d.H,jI d.T,jI d.R]) A A A A A (aM 1 A 0 A)))
 intro vf pf J
 exact fG A (aD [2] A) (aK (aU A))
 intro vf pf J
 exact eH A (aD [8] A) (aK (aP (cs:=[jI c.nd,jI c.sb,jI c.sp,c.kv]) A A A A A (aM 0 A 0 A)))
 intro vf pf J
 have e0:=J 0 V
 have e1:=J 1 V
 have e2:=J 2 V
 exact eH A (aX 23 e0.1 (aX 24 e1.1 (aX 25 e2.1 (aA _)))) (aF A A (fun w K=>aI (lF d pl _ c w (ab.below K.bel) ac Y.p0 Y.p1 hc.one)))
 intro vf pf J
 exact eH A (aD [5] A) (aK (aP (cs:=[jI d.W,jI d.H,jI d.T,jI d.R]) A A A A A (aM 1 A 0 A)))
 intro vf pf J
 exact fG A (aD [2] A) (aK (aU A))
 intro vf pf J
 exact eH A (aD [8] A) (aK (aP (cs:=[jI c.nd,jI c.sb,jI c.sp,c.kv]) A A A A A (aM 0 A 0 A)))
 intro vf pf J
 have e4:=J 4 V
 have e5:=J 5 V
 have e6:=J 6 V
 exact eH A (aX 27 e4.1 (aX 28 e5.1 (aX 29 e6.1 (aA _)))) (aF A A (fun w K=>lX d pl _ c w (ab.below K.bel) ac (hc.below K.bel) Y.kl Y.kp))
 intro vf pf J
 have e3:=J 3 V
 obtain⟨v3,a6⟩:=dU (vf 7)
 obtain⟨p4,ae⟩:=dU (pf 7)
 have R5:=J 7 V
 rw[a6,ae] at R5
 obtain⟨rfl,af⟩:=R5
 have q0:=J 0 V
 have q1:=J 1 V
 have q2:=J 2 V
 have q3:=J 3 V
 have q4:=J 4 V
 have q5:=J 5 V
 have q6:=J 6 V
 refine cL (bE [10,8,5,4,3,2,1,0] _ (aX 26 e3.1 (aX 30 a6 (aA _))) A) (by simp only[ae,a6,q0.2,q1.2,q2.2,q3.2,q4.2,q5.2,q6.2,fS]<;>rfl) ?_
 simp only[drop_succ_cons,drop_zero]
 refine go ?_
 refine aW A A A A A A (fun h6=>go ?_) (fun h6=>go ?_)
 exact aT A A (congrArg _ (by first|(rw[rJ O];done)|(rw[sC (fun r hr=>by simp_all)])))
 refine aN A (lN A z8 A A (aB 0 A) af) ?_
 refine bD (fun h7=>go ?_) (fun h7=>go ?_)
 exact aT A A (congrArg _ (by first|(rw[rJ O];done)|(rw[sC (fun r hr=>by simp_all)])))
 have G:0≤(srcN d pl c):=O
 have M:=xM G
 have Z:¬(srcN d pl c)∈ws:=fun h9=>by have h8:=(a4 _ h9).1;rw[Jk G] at h8;cases h8
 refine cM A (aF A A (fun w K=>aI (iJ d w hd))) (cH A (fB (z:=.bool false) (s:=1) (bytes:=1) (n:=(replicate (allI d).toNat bl0).length) (cs:=((replicate (allI d).toNat bl0).flatMap blC)) A Tryz.underlying61 A V A A AB AB AF (fZ blC 1 (fun _=>A) bl0 _ A (allI d).toNat)) fun g8=>go ?_)
 refine iG (α:=Nat) (β:=List Bl) [0,1,2,3,4,5,8,10,11,12,13,36,40,41] A (fun i B=>[rS9 4 1 (.slice (some ⟨g8,0,none⟩) ((replicate (allI d).toNat bl0).length) ((replicate (allI d).toNat bl0).length)) B blC,rowE 3 1 v3 ((snkG d pl c.ks).length) (mI (snkG d pl c.ks)),boxE b2 #[jI c.nd,jI c.sb,jI c.sp,c.kv] 44,boxE b1 #[jI d.W,jI d.H,jI d.T,jI d.R] 25]) (fun i B=>[(42,jI (i:Int))]) (fun i B=>i≤ws.length∧WsM (allI d).toNat ws i B) (fun i B=>ws.length-i) 0 (replicate (allI d).toNat bl0) ⟨O,wJ _ _⟩ (bV A) (cZ A) fun i B aq=>go ?_
 obtain⟨hi,a7⟩:=aq
 have ar:=a7.len
 refine aW A A A A A A (fun au=>go ?_) (fun au=>go ?_)
 refine aN A (cV 1 A A A A (aE ad)) (aN A (lD A A A (aE ad)) (go ?_))
 obtain⟨bi,bj,bk⟩:=a4 (ws.getD i 0) (dV O)
 refine aN A (cV 1 A A A A (aB 0 A)) ?_
 refine dS (i:=0) (n':=(B.set ((ws.getD i 0).toNat) { B.getD ((ws.getD i 0).toNat) bl0 with b:=true }).length) A A A A A A A A AA List.length_set.symm (eF blC (fun r=>.bool r.b) (fun _=>A) _ ({ B.getD ((ws.getD i 0).toNat) bl0 with b:=true }) A) A (go ?_)
 exact bO (i+1) (B.set ((ws.getD i 0).toNat) { B.getD ((ws.getD i 0).toNat) bl0 with b:=true }) ⟨O,a7.more O O A⟩ O (bV A) (cZ A)
 refine cH A (bU (s:=1) A Tryz.underlying61 A) fun bl=>go ?_
 refine bT (i:=0) (z:=.bool false) (bytes:=1) (n':=B.length) (xs':=(B.flatMap blC)) A A A A Tryz.underlying61 F A A A A (aB 1 A) (Fz blC B (fun r u hu=>by simp[blC] at hu;first|(subst hu;rfl)|(rcases hu with rfl|rfl<;>rfl)|(rcases hu with rfl|rfl|rfl<;>rfl)|(rcases hu with rfl|rfl|rfl|rfl<;>rfl))) AL (Nat.zero_add _) (nil_append _) (fun _=>A) fun U=>go ?_
 refine aN A (cV 1 A A A A (aB 1 A)) ?_
 refine dS (i:=1) (n':=(B.set ((srcN d pl c).toNat) { B.getD ((srcN d pl c).toNat) bl0 with b:=true }).length) A A A A A A A A AA List.length_set.symm (eF blC (fun r=>.bool r.b) (fun _=>A) _ ({ B.getD ((srcN d pl c).toNat) bl0 with b:=true }) A) A (go ?_)
 refine cH A (aH (z:=jI 0) (s:=1) (cs:=(mI [(srcN d pl c)])) A z8 A V A F A) fun ag=>go ?_
 refine jF 6 [5,4,3,2,1,0] A A V ?_
 refine fK [rowQ 3 (.slice (some ⟨ag,0,none⟩) 1 1) (([(srcN d pl c)]).length) (mI ([(srcN d pl c)])),rS9 4 1 U B blC,rowE 4 1 (.slice (some ⟨g8,0,none⟩) ((replicate (allI d).toNat bl0).length) ((replicate (allI d).toNat bl0).length)) ((B.set ((srcN d pl c).toNat) { B.getD ((srcN d pl c).toNat) bl0 with b:=true }).length) ((B.set ((srcN d pl c).toNat) { B.getD ((srcN d pl c).toNat) bl0 with b:=true }).flatMap blC),rowE 3 1 v3 ((snkG d pl c.ks).length) (mI (snkG d pl c.ks)),boxE b2 #[jI c.nd,jI c.sb,jI c.sp,c.kv] 44,boxE b1 #[jI d.W,jI d.H,jI d.T,jI d.R] 25] (fun w K=>Mem.toQ AI K) ?_
 have a0:∀x:Int,0≤x→x<allI d→((B.getD x.toNat bl0).b=true↔x∈ws):=fun x x0 x1=>by have h9:=a7.mks x x0 O;rwa [show i=ws.length by omega,take_length] at h9
 have aw:(B.getD (srcN d pl c).toNat bl0).b=false:=by rw[Bool.eq_false_iff];intro h9;exact Z ((a0 (srcN d pl c) G M).1 h9)
 have ah:=rH B (srcN d pl c).toNat { B.getD ((srcN d pl c).toNat) bl0 with b:=true } O aw rfl
 have b9:=Eu B
 refine fP (α:=Value) (β:=List Int) (γ:=List Bl) [0,1,2,3,4,5,8,10,11,12,13,16,36,40,41,43] A (fun u e E=>[rowQ 3 u e.length (mI e),rS9 4 1 U B blC,rS9 4 1 (.slice (some ⟨g8,0,none⟩) ((replicate (allI d).toNat bl0).length) ((replicate (allI d).toNat bl0).length)) E blC,rowE 3 1 v3 ((snkG d pl c.ks).length) (mI (snkG d pl c.ks)),boxE b2 #[jI c.nd,jI c.sb,jI c.sp,c.kv] 44,boxE b1 #[jI d.W,jI d.H,jI d.T,jI d.R] 25]) (fun u e E=>[(17,u)]) (fun u e E=>BfsI d ws (srcN d pl c) E e∧e.length+cntF E≤(allI d).toNat) (fun u e E=>e.length+cntF E) (.slice (some ⟨ag,0,none⟩) 1 1) [(srcN d pl c)] (B.set ((srcN d pl c).toNat) { B.getD ((srcN d pl c).toNat) bl0 with b:=true }) ⟨BfsI.start ar G M Z (fun x hx=>(a4 x hx).2) a0 A,by(try dsimp only);(try dsimp only at ah);simp only[length_cons,List.length_nil];omega⟩ (bV A) (cZ A) fun u e E ai=>go ?_
 obtain⟨a1,bm⟩:=ai
 have ba:=a1.len
 refine aN A (eV A A A (Ka 0 A)) ?_
 refine fJ A A A A A A (fun ax=>go ?_) (fun ax=>go ?_)
 refine aN A (cV 1 A A A A (Ka 0 A)) (aN A (aL (u:=jI (e.getD 0 0)) A A A (Ka 0 A) (cJ (show _<e.length by omega))) (go ?_))
 obtain⟨⟨a8,bn⟩,bo,bp⟩:=a1.tdo (e.getD 0 0) (dV O)
 refine aN A (nS A z8 A A A (Ka 0 A) O O) (go ?_)
 refine kQ 6 [5,4,3,2,1,0] A A V ?_
 refine jZ [rowQ 3 (slV u (1:Int).toNat e.length 1) ((e.drop 1).length) (mI (e.drop 1)),rS9 4 1 U B blC,rS9 4 1 (.slice (some ⟨g8,0,none⟩) ((replicate (allI d).toNat bl0).length) ((replicate (allI d).toNat bl0).length)) E blC,rowE 3 1 v3 ((snkG d pl c.ks).length) (mI (snkG d pl c.ks)),boxE b2 #[jI c.nd,jI c.sb,jI c.sp,c.kv] 44,boxE b1 #[jI d.W,jI d.H,jI d.T,jI d.R] 25] (fun w K=>Mem.tailI O K) (go ?_)
 have bq:=X.ks.len
 have br:=X.ks.sz ((e.getD 0 0).toNat) O
 refine aN A (jM A A) (go ?_)
 refine aN A (bJ A A A (fun w K=>(K.bel.cell (p:=⟨b,0+1,none⟩) hg.lt).trans hg.c1)) (go ?_)
 refine aN A (cV 1 A A A A (fun w K=>(hg.ks.below K.bel).row)) (aN A (aL (u:=(g.ks.getD ((e.getD 0 0).toNat) ir0).v) A A A (fun w K=>(hg.ks.below K.bel).row) (dF irC (fun r=>r.v) (fun _=>A) g.ks ir0 (show(e.getD 0 0).toNat<_ by omega))) ?_)
 refine aN A (eV A A A (fun w K=>(hg.ks.at (k:=(e.getD 0 0).toNat) O).below K.bel)) (go ?_)
 refine mS (α:=Nat) (β:=Value) (γ:=List Int) (δ:=List Bl) [0,1,2,3,4,5,8,10,11,12,13,16,18,36,40,41,43,60,72,73] A (fun j u2 D h=>[rowQ 3 u2 D.length (mI D),rS9 4 1 U B blC,rS9 4 1 (.slice (some ⟨g8,0,none⟩) ((replicate (allI d).toNat bl0).length) ((replicate (allI d).toNat bl0).length)) h blC,rowE 3 1 v3 ((snkG d pl c.ks).length) (mI (snkG d pl c.ks)),boxE b2 #[jI c.nd,jI c.sb,jI c.sp,c.kv] 44,boxE b1 #[jI d.W,jI d.H,jI d.T,jI d.R] 25]) (fun j u2 D h=>[(17,u2),(74,jI (j:Int))]) (fun j u2 D h=>j≤(g.ks.getD ((e.getD 0 0).toNat) ir0).xs.length∧BfsJ d ws (srcN d pl c) h D (e.getD 0 0) (g.ks.getD ((e.getD 0 0).toNat) ir0).xs j∧D.length+cntF h+1=e.length+cntF E) (fun j u2 D h=>(g.ks.getD ((e.getD 0 0).toNat) ir0).xs.length-j) 0 (slV u (1:Int).toNat e.length 1) (e.drop 1) E ⟨O,a1.tail O _,by rw[length_drop];omega⟩ (bV A) (cZ A) fun j u2 D h aj=>go ?_
 obtain⟨hj,a5,ay⟩:=aj
 have bb:=a5.len
 refine aW A A A A A A (fun az=>go ?_) (fun az=>go ?_)
 refine aN A (cV 1 A A A A (fun w K=>(hg.ks.at (k:=(e.getD 0 0).toNat) O).below K.bel)) (aN A (aL (u:=jI (((g.ks.getD ((e.getD 0 0).toNat) ir0).xs).getD j 0)) A A A (fun w K=>(hg.ks.at (k:=(e.getD 0 0).toNat) O).below K.bel) (cJ (show _<((g.ks.getD ((e.getD 0 0).toNat) ir0).xs).length by omega))) (go ?_))
 obtain⟨b0,bt,b3⟩:=wN X (x:=e.getD 0 0) a8 O (n:=((g.ks.getD ((e.getD 0 0).toNat) ir0).xs.getD j 0)) (dV O)
 refine aN A (cV 1 A A A A (aB 2 A)) ?_
 refine aN A (aL (u:=.bool ((h.getD ((((g.ks.getD ((e.getD 0 0).toNat) ir0).xs).getD j 0).toNat) bl0).b)) A A A (aB 2 A) (dF blC (fun r=>.bool r.b) (fun _=>A) h bl0 (show(((g.ks.getD ((e.getD 0 0).toNat) ir0).xs).getD j 0).toNat<_ by omega))) (bD (fun ak=>go ?_) (fun ak=>go ?_))
 exact dH (j+1) u2 D h ⟨O,a5.skip (by unfold mkB;assumption),ay⟩ O (bV A) (cZ A)
 refine aN A (cV 1 A A A A (aB 2 A)) ?_
 refine dS (i:=2) (n':=(h.set ((((g.ks.getD ((e.getD 0 0).toNat) ir0).xs).getD j 0).toNat) { h.getD ((((g.ks.getD ((e.getD 0 0).toNat) ir0).xs).getD j 0).toNat) bl0 with b:=true }).length) A A A A A A A A AA List.length_set.symm (eF blC (fun r=>.bool r.b) (fun _=>A) _ ({ h.getD ((((g.ks.getD ((e.getD 0 0).toNat) ir0).xs).getD j 0).toNat) bl0 with b:=true }) A) A (go ?_)
 refine cH A (aH (z:=jI 0) (s:=1) (cs:=(mI [((g.ks.getD ((e.getD 0 0).toNat) ir0).xs).getD j 0])) A z8 A V A F A) fun b4=>?_
 refine Dd (i:=1) (z:=jI 0) (bytes:=8) (q:=jI (((g.ks.getD ((e.getD 0 0).toNat) ir0).xs).getD j 0)) (n':=(D++[((g.ks.getD ((e.getD 0 0).toNat) ir0).xs).getD j 0]).length) (xs':=((D++[((g.ks.getD ((e.getD 0 0).toNat) ir0).xs).getD j 0]).map (Value.int .i64))) (L:=fun a9=>[rowE 3 1 (.slice (some ⟨b4,0,none⟩) 1 1) 1 (mI [((g.ks.getD ((e.getD 0 0).toNat) ir0).xs).getD j 0]),rowQ 3 a9 ((D++[((g.ks.getD ((e.getD 0 0).toNat) ir0).xs).getD j 0]).length) ((D++[((g.ks.getD ((e.getD 0 0).toNat) ir0).xs).getD j 0]).map (Value.int .i64)),rS9 4 1 U B blC,rowE 4 1 (.slice (some ⟨g8,0,none⟩) ((replicate (allI d).toNat bl0).length) ((replicate (allI d).toNat bl0).length)) ((h.set ((((g.ks.getD ((e.getD 0 0).toNat) ir0).xs).getD j 0).toNat) { h.getD ((((g.ks.getD ((e.getD 0 0).toNat) ir0).xs).getD j 0).toNat) bl0 with b:=true }).length) ((h.set ((((g.ks.getD ((e.getD 0 0).toNat) ir0).xs).getD j 0).toNat) { h.getD ((((g.ks.getD ((e.getD 0 0).toNat) ir0).xs).getD j 0).toNat) bl0 with b:=true }).flatMap blC),rowE 3 1 v3 ((snkG d pl c.ks).length) (mI (snkG d pl c.ks)),boxE b2 #[jI c.nd,jI c.sb,jI c.sp,c.kv] 44,boxE b1 #[jI d.W,jI d.H,jI d.T,jI d.R] 25]) A A A A z8 A A A A A (aB 0 A) A O (bK D [((g.ks.getD ((e.getD 0 0).toNat) ir0).xs).getD j 0]) (cB D [((g.ks.getD ((e.getD 0 0).toNat) ir0).xs).getD j 0]) (fun _=>A) fun a9=>go ?_
 have al:(h.getD (((g.ks.getD ((e.getD 0 0).toNat) ir0).xs.getD j 0)).toNat bl0).b=false:=ak
 have b5:=rH h ((((g.ks.getD ((e.getD 0 0).toNat) ir0).xs.getD j 0)).toNat) { h.getD ((((g.ks.getD ((e.getD 0 0).toNat) ir0).xs).getD j 0).toNat) bl0 with b:=true } O al rfl
 exact dH (j+1) a9 (D++[((g.ks.getD ((e.getD 0 0).toNat) ir0).xs).getD j 0]) (h.set ((((g.ks.getD ((e.getD 0 0).toNat) ir0).xs).getD j 0).toNat) { h.getD ((((g.ks.getD ((e.getD 0 0).toNat) ir0).xs).getD j 0).toNat) bl0 with b:=true }) ⟨O,a5.put al b0 O b3 A (fun r hr=>(wN X a8 O (dV hr)).1) O G (fun x hx=>(a4 x hx).2.1),by(try dsimp only);(try dsimp only at b5);simp only[length_append,length_cons,List.length_nil];omega⟩ O (bV A) (eA [1,0,0,0,0,0] A)
 exact aQ u2 D h ⟨a5.fin O (fun y y0 y1 hy=>Fg X a8 O y0 O hy),O⟩ O (bV A) (cZ A)
 have aa:BfsI d ws (srcN d pl c) E []:=by rw[List.eq_nil_of_length_eq_zero (show e.length=0 by omega)] at a1;exact a1
 refine lC (α:=Nat) [0,1,2,3,4,5,8,10,11,12,13,16,17,36,40,41,43,60,91,92] A (fun q=>[rowQ 3 u e.length (mI e),rS9 4 1 U B blC,rS9 4 1 (.slice (some ⟨g8,0,none⟩) ((replicate (allI d).toNat bl0).length) ((replicate (allI d).toNat bl0).length)) E blC,rowE 3 1 v3 ((snkG d pl c.ks).length) (mI (snkG d pl c.ks)),boxE b2 #[jI c.nd,jI c.sb,jI c.sp,c.kv] 44,boxE b1 #[jI d.W,jI d.H,jI d.T,jI d.R] 25]) (fun q=>[(93,jI (q:Int))]) (fun q=>q≤(snkG d pl c.ks).length∧∀r,r<q→Rch d ws (srcN d pl c) ((snkG d pl c.ks).getD r 0)) (fun q=>(snkG d pl c.ks).length-q) 0 ⟨O,fun r hr=>absurd hr O⟩ (bV A) (cZ A) fun q am=>go ?_
 obtain⟨hq,an⟩:=am
 refine aW A A A A A A (fun b6=>go ?_) (fun b6=>go ?_)
 refine aN A (cV 1 A A A A (aB 3 A)) (aN A (aL (u:=jI ((snkG d pl c.ks).getD q 0)) A A A (aB 3 A) (cJ (show _<(snkG d pl c.ks).length by omega))) (go ?_))
 obtain⟨a2,a3⟩:=nN (dV (show q<(snkG d pl c.ks).length by omega))
 refine aN A (cV 1 A A A A (aB 2 A)) ?_
 refine aN A (aL (u:=.bool ((E.getD (((snkG d pl c.ks).getD q 0).toNat) bl0).b)) A A A (aB 2 A) (dF blC (fun r=>.bool r.b) (fun _=>A) E bl0 (show((snkG d pl c.ks).getD q 0).toNat<_ by omega))) (bD (fun ao=>go ?_) (fun ao=>go ?_))
 refine aN A (cV 1 A A A A (aB 1 A)) ?_
 refine aN A (aL (u:=.bool ((B.getD (((snkG d pl c.ks).getD q 0).toNat) bl0).b)) A A A (aB 1 A) (dF blC (fun r=>.bool r.b) (fun _=>A) B bl0 (show((snkG d pl c.ks).getD q 0).toNat<_ by omega))) (bD (fun ap=>go ?_) (fun ap=>go ?_))
 exact aT A A (congrArg _ (rI O (i:=q) O (fun h9=>by have h8:=(Co aa G M Z a0 a2 a3).2 h9;first|exact absurd (h8.1.symm.trans I) V|exact absurd (h8.2.symm.trans I) V)).symm)
 exact dR (q+1) ⟨O,fun r hr=>by by_cases b7:r=q;(subst b7;exact(Co aa G M Z a0 a2 a3).1 ⟨ao,ap⟩);exact an r O⟩ O (bV A) (cZ A)
 exact aT A A (congrArg _ (rI O (i:=q) O (fun h9=>by have h8:=(Co aa G M Z a0 a2 a3).2 h9;first|exact absurd (h8.1.symm.trans I) V|exact absurd (h8.2.symm.trans I) V)).symm)
 exact aT A A (congrArg _ (sC (fun r hr=>an r O)).symm)
open Go.RowKit
theorem iM {d:Dev}{ws:List Int}:wsB d ws=true↔devB d=true∧WsP d ws ws.length:=by unfold wsB;rw[and_eq_true,decide_eq_true_eq]
theorem xH {d:Dev}{ws:List Int}(h:wsB d ws=true):∀x∈ws,isWireI d x=true∧0≤x∧x<allI d:=fun x B=>by
  obtain⟨k,e,rfl⟩:=iF B
  exact⟨((iM.1 h).2 k e).1,(tB h).2 k e⟩
theorem mD (d:Dev) (b:Nat) (g:Gr) (pl:List Int) (E:Value) (cs:List Cn) (G:Value) (ws:List Int) (J:Value) (w:World) (hd:devB d=true) (hg:RdsGr w b g) (K:GrOk d (allI d).toNat g) (M:RdsW w E 1 pl.length (pl.map (Value.int .i64))) (U:pl.length≤64) (B:RdsCn w G cs) (a2:cs.length≤100000) (X:∀c∈cs,CnB c) (Y:RdsW w J 1 ws.length (ws.map (Value.int .i64))) (Z:ws.length≤100000) (a0:∀x∈ws,isWireI d x=true∧0≤x∧x<allI d) :
   Calls Tryz.prog 22 #[.agg #[.int .i64 d.W,.int .i64 d.H,.int .i64 d.T,.int .i64 d.R],.pointer (some ⟨b,0,none⟩),E,G,J] w (Ans w (.int .i64 (cntS d pl ws cs))):=by
 refine aY (N:=30) (args:=[.agg #[jI d.W,jI d.H,jI d.T,jI d.R],pI b,E,G,J]) Tryz.func22 A A (dW ?_)
 refine cU A (cE A A) fun b1=>go ?_
 refine aN A (eV A A A (aE B.row)) (go ?_)
 refine iG (α:=Nat) (β:=Int) [0,1,2,3,4,5,10,14,15] A (fun i o=>[boxE b1 #[jI d.W,jI d.H,jI d.T,jI d.R] 25]) (fun i o=>[(11,jI o),(16,jI (i:Int))]) (fun i o=>i≤cs.length∧o=cntS d pl ws (cs.take i)) (fun i o=>cs.length-i) 0 0 ⟨Nat.zero_le _,by simp[cntS]⟩ (bV A) (cZ A) fun i o a1=>go ?_
 obtain⟨hi,h⟩:=a1
 have a3:=rF d pl ws (cs.take i)
 have a4:(cs.take i).length=i:=by rw[length_take];omega
 refine aW A A A A A A (fun h3=>go ?_) (fun h3=>go ?_)
 have e:=xC (d:=d) (pl:=pl) (ws:=ws) (cs:=cs) (i:=i) O
 refine aN A (cV 4 A A A A (aE B.row)) (aN A (cO (us:=[jI ((cs.getD i cn0).nd),jI ((cs.getD i cn0).sb),jI ((cs.getD i cn0).sp),(cs.getD i cn0).kv]) A A A A (aE B.row) O A (dQ cnC 4 (fun _=>A) cs cn0 (show i<_ by omega) A)) ?_)
 refine cU A (bY (z:=.agg #[jI 0,jI 0,jI 0,.slice none 0 0]) A A) fun b4=>?_
 refine cA (cs':=#[jI ((cs.getD i cn0).nd),jI ((cs.getD i cn0).sb),jI ((cs.getD i cn0).sp),(cs.getD i cn0).kv]) (i:=0) (off:=0) (us:=[jI ((cs.getD i cn0).nd),jI ((cs.getD i cn0).sb),jI ((cs.getD i cn0).sp),(cs.getD i cn0).kv]) A A A A A A A (aC A (aC A (aC A (aC (B.at (k:=i) O).one bH)))) A A A (go ?_)
 refine cM A (aF A A (fun w D=>aI (Db d b g pl _ (cs.getD i cn0) ws _ w hd (hg.below D.bel) K (M.below D.bel) U ((B.at (k:=i) O).below D.bel) (X _ (eN O)) (Y.below D.bel) Z a0))) (bD (fun h5=>go ?_) (fun h5=>go ?_))
 exact bO (i+1) (o+1) ⟨O,by rw[e,if_pos I,h]⟩ O (bV rfl) (eA [1] rfl)
 exact bO (i+1) o ⟨O,by rw[e,if_neg (by simp_all),h];omega⟩ O (bV rfl) (eA [1] rfl)
 exact aT A A (by rw[h,show i=cs.length by omega,take_length])
theorem oY (d:Dev) (pl:List Int) (Y:Value) (cs:List Cn) (Z:Value) (ws:List Int) (wv:Value) (w:World) (a0:RdsW w Y 1 pl.length (pl.map (Value.int .i64))) (a1:pl.length≤64) (hc:RdsCn w Z cs) (a2:cs.length≤100000) (a3:∀c∈cs,CnB c) (K:RdsW w wv 1 ws.length (ws.map (Value.int .i64))) (a4:ws.length≤100000)  :
   Calls Tryz.prog 8 #[.agg #[.int .i64 d.W,.int .i64 d.H,.int .i64 d.T,.int .i64 d.R],Y,Z,wv] w (Ans w (.int .i64 (scI d pl cs ws))):=by
 refine aY (N:=25) (args:=[.agg #[jI d.W,jI d.H,jI d.T,jI d.R],Y,Z,wv]) Tryz.func8 A A (dW ?_)
 refine cU A (cE A A) fun b1=>go ?_
 refine cM A (aF A A (fun w E=>aI (eD d w))) (bD (fun h2=>go ?_) (fun h2=>go ?_))
 refine cM A (aF A A (fun w E=>aI (lG d ws _ w (K.below E.bel) O))) (bD (fun h3=>go ?_) (fun h3=>go ?_))
 refine eI A 7 [0,1,2,3,4,5,6] (List.take 7 _) (List.drop 7 _) [[],[],[1],[],[],[],[0,2,3,4,5]] [18,19,20,21,22,23,24] (fun i_ a5 G J=>match i_ with|0=>G=.agg #[jI d.W,jI d.H,jI d.T,jI d.R]∧J=[]|1=>G=.agg #[jI d.W,jI d.H,jI d.T,jI d.R]∧J=[]|2=>(fun v' post=>∃(b:Nat) (g:Gr),v'=pI b∧post=[grE b g]∧GrOk d (allI d).toNat g) G J|3=>G=Y∧J=[]|4=>G=Z∧J=[]|5=>G=wv∧J=[]|6=>G=jI (cntS d pl ws cs)∧J=[]|_=>True) (take_append_drop 7 _).symm F F A A ?_ ?_
 refine⟨?_,?_,?_,?_,?_,?_,?_,trivial⟩
 intro vf D e
 exact eH A (aD [4] A) (aK (aP (cs:=[jI d.W,jI d.H,jI d.T,jI d.R]) A A A A A (aM 0 A 0 A)))
 intro vf D e
 exact eH A (aD [4] A) (aK (aP (cs:=[jI d.W,jI d.H,jI d.T,jI d.R]) A A A A A (aM 0 A 0 A)))
 intro vf D e
 have e1:=e 1 V
 exact eH A (aX 19 e1.1 (aA _)) (aF A A (fun w E=>mC d w I))
 intro vf D e
 exact fG A (aD [1] A) (aK (aU A))
 intro vf D e
 exact fG A (aD [2] A) (aK (aU A))
 intro vf D e
 exact fG A (aD [3] A) (aK (aU A))
 intro vf D e
 have e0:=e 0 V
 obtain⟨v4,h⟩:=dU (vf 2)
 obtain⟨p5,B⟩:=dU (D 2)
 have M:=e 2 V
 rw[h,B] at M
 obtain⟨b,g,rfl,rfl,U⟩:=M
 have e3:=e 3 V
 have e4:=e 4 V
 have e5:=e 5 V
 refine Or.inl ⟨A,?_⟩
 exact bQ (aX 18 e0.1 (aX 20 h (aX 21 e3.1 (aX 22 e4.1 (aX 23 e5.1 (aA _)))))) (by simp only[B,h,e0.2,e3.2,e4.2,e5.2,fS]<;>rfl) (aF A A (fun w E=>aI (mD d b g pl _ cs _ ws _ w I (yS 0 A w E) U (a0.below E.bel) a1 (hc.below E.bel) a2 a3 (K.below E.bel) a4 (xH (iM.2 ⟨I,of_decide_eq_true I⟩)))))
 intro vf D e
 obtain⟨v4,h⟩:=dU (vf 2)
 obtain⟨p5,B⟩:=dU (D 2)
 have M:=e 2 V
 rw[h,B] at M
 obtain⟨b,g,rfl,rfl,U⟩:=M
 have e6:=e 6 V
 have q0:=e 0 V
 have q1:=e 1 V
 have q3:=e 3 V
 have q4:=e 4 V
 have q5:=e 5 V
 have q6:=e 6 V
 refine cL (bE [17,8,4,3,2,1,0] _ (aX 24 e6.1 (aA _)) A) (by simp only[B,h,q0.2,q1.2,q3.2,q4.2,q5.2,q6.2,fS]<;>rfl) ?_
 simp only[drop_succ_cons,drop_zero]
 refine go ?_
 exact aT A A (by unfold scI;first|(rw[if_pos (iM.2 ⟨I,of_decide_eq_true I⟩)];done)|rw[if_neg (fun X=>by have h8:=iM.1 X;simp_all)])
 exact aT A A (by unfold scI;first|(rw[if_pos (iM.2 ⟨I,of_decide_eq_true I⟩)];done)|rw[if_neg (fun X=>by have h8:=iM.1 X;simp_all)])
 exact aT A A (by unfold scI;first|(rw[if_pos (iM.2 ⟨I,of_decide_eq_true I⟩)];done)|rw[if_neg (fun X=>by have h8:=iM.1 X;simp_all)])
theorem sQ (d:Dev) (pl:List Int) (pv:Value) (cs:List Cn) (cv:Value) (ws:List Int) (wv:Value) (w:World) (ak:RdsW w pv 1 pl.length (pl.map (Value.int .i64))) (al:pl.length≤64) (hc:RdsCn w cv cs) (am:cs.length≤100000) (an:∀c∈cs,CnB c) (Y:RdsW w wv 1 ws.length (ws.map (Value.int .i64))) (ao:ws.length≤100000)  :
   Calls Tryz.prog 7 #[.agg #[.int .i64 d.W,.int .i64 d.H,.int .i64 d.T,.int .i64 d.R],pv,cv,wv] w (Ans w (.bool (crB d pl cs ws))):=by
 have aw:=rF d pl ws cs
 refine aY (N:=28) (args:=[.agg #[jI d.W,jI d.H,jI d.T,jI d.R],pv,cv,wv]) Tryz.func7 A A (dW ?_)
 refine cU A (cE A A) fun b1=>go ?_
 rcases eq_false_or_eq_true (devB d) with a1|a1
 rcases eq_false_or_eq_true (decide (WsP d ws ws.length)) with a8|a8
 rcases eq_false_or_eq_true (decide ((ws.length:Int)<cntS d pl ws cs)) with a2|a2
 have ap:(ws.length:Int)<cntS d pl ws cs:=of_decide_eq_true a2
 refine eI A 19 [0,1,2,3,4,5,6,7,8,9,10,11,12,13,14,15,16,17,18] (List.take 19 _) (List.drop 19 _) [[],[0],[1],[2],[2],[2,3,4],[2,5],[6],[7],[7],[7,9],[7],[7],[7],[7,8,10,11,12,13],[7],[7,15],[7,10,14,16],[7,17]] [9,10,11,12,13,14,15,16,17,18,19,20,21,22,23,24,25,26,27] (fun i_ au J K=>match i_ with|0=>J=.agg #[jI d.W,jI d.H,jI d.T,jI d.R]∧K=[]|1=>J=.bool true∧K=[]|2=>J=.bool true∧K=[]|3=>J=.agg #[jI d.W,jI d.H,jI d.T,jI d.R]∧K=[]|4=>J=wv∧K=[]|5=>J=.bool true∧K=[]|6=>J=.bool true∧K=[]|7=>J=.bool true∧K=[]|8=>J=.agg #[jI d.W,jI d.H,jI d.T,jI d.R]∧K=[]|9=>J=.agg #[jI d.W,jI d.H,jI d.T,jI d.R]∧K=[]|10=>(fun v' post=>∃(b:Nat) (g:Gr),v'=pI b∧post=[grE b g]∧GrOk d (allI d).toNat g) J K|11=>J=pv∧K=[]|12=>J=cv∧K=[]|13=>J=wv∧K=[]|14=>J=jI (cntS d pl ws cs)∧K=[]|15=>J=wv∧K=[]|16=>J=jI (ws.length:Int)∧K=[]|17=>J=.bool true∧K=[]|18=>J=.bool true∧K=[]|_=>True) (take_append_drop 19 _).symm F F A A ?_ ?_
 refine⟨?_,?_,?_,?_,?_,?_,?_,?_,?_,?_,?_,?_,?_,?_,?_,?_,?_,?_,?_,trivial⟩
 intro vf G e
 exact eH A (aD [4] A) (aK (aP (cs:=[jI d.W,jI d.H,jI d.T,jI d.R]) A A A A A (aM 0 A 0 A)))
 intro vf G e
 have e0:=e 0 V
 exact eH A (aX 9 e0.1 (aA _)) (dM (aF A A (fun w M=>aI (eD d w))) (fun _ _ h=>⟨h.1.trans (congrArg Value.bool a1),h.2⟩))
 intro vf G e
 have e1:=e 1 V
 exact fG A (aX 10 e1.1 (aA _)) (aK (aU A))
 intro vf G e
 have Z:=e 2 V
 refine Or.inl ⟨cC (congrArg some Z.1) A,?_⟩
 exact bC (aD [4] A) z9 (aK (aP (cs:=[jI d.W,jI d.H,jI d.T,jI d.R]) A A A A A (aM 0 A 0 A)))
 intro vf G e
 have Z:=e 2 V
 refine Or.inl ⟨cC (congrArg some Z.1) A,?_⟩
 exact aZ (aD [3] A) (aK (aU A))
 intro vf G e
 have Z:=e 2 V
 have e3:=e 3 V
 have e4:=e 4 V
 refine Or.inl ⟨cC (congrArg some Z.1) A,?_⟩
 exact bC (aX 12 e3.1 (aX 13 e4.1 (aA _))) z9 (dM (aF A A (fun w M=>aI (lG d ws _ w (Y.below M.bel) O))) (fun _ _ h=>⟨h.1.trans (congrArg Value.bool a8),h.2⟩))
 intro vf G e
 have Z:=e 2 V
 have e5:=e 5 V
 exact fG A (aX 11 Z.1 (aX 14 e5.1 (aA _))) (aK (aU A))
 intro vf G e
 have e6:=e 6 V
 exact fG A (aX 15 e6.1 (aA _)) (aK (aU A))
 intro vf G e
 have E:=e 7 V
 refine Or.inl ⟨cC (congrArg some E.1) A,?_⟩
 exact bC (aD [4] A) z9 (aK (aP (cs:=[jI d.W,jI d.H,jI d.T,jI d.R]) A A A A A (aM 0 A 0 A)))
 intro vf G e
 have E:=e 7 V
 refine Or.inl ⟨cC (congrArg some E.1) A,?_⟩
 exact bC (aD [4] A) z9 (aK (aP (cs:=[jI d.W,jI d.H,jI d.T,jI d.R]) A A A A A (aM 0 A 0 A)))
 intro vf G e
 have E:=e 7 V
 have e9:=e 9 V
 refine Or.inl ⟨cC (congrArg some E.1) A,?_⟩
 exact bC (aX 18 e9.1 (aA _)) z9 (aF A A (fun w M=>mC d w I))
 intro vf G e
 have E:=e 7 V
 refine Or.inl ⟨cC (congrArg some E.1) A,?_⟩
 exact aZ (aD [1] A) (aK (aU A))
 intro vf G e
 have E:=e 7 V
 refine Or.inl ⟨cC (congrArg some E.1) A,?_⟩
 exact aZ (aD [2] A) (aK (aU A))
 intro vf G e
 have E:=e 7 V
 refine Or.inl ⟨cC (congrArg some E.1) A,?_⟩
 exact aZ (aD [3] A) (aK (aU A))
 intro vf G e
 have E:=e 7 V
 have e8:=e 8 V
 obtain⟨v8,B⟩:=dU (vf 10)
 obtain⟨p9,D⟩:=dU (G 10)
 have U:=e 10 V
 rw[B,D] at U
 obtain⟨b,g,rfl,rfl,a0⟩:=U
 have a3:=e 11 V
 have a4:=e 12 V
 have a5:=e 13 V
 refine Or.inl ⟨cC (congrArg some E.1) A,?_⟩
 exact bQ (aX 17 e8.1 (aX 19 B (aX 20 a3.1 (aX 21 a4.1 (aX 22 a5.1 (aA _)))))) (by simp only[D,B,E.2,e8.2,a3.2,a4.2,a5.2,fS]<;>rfl) (aF A A (fun w M=>aI (mD d b g pl _ cs _ ws _ w I (yS 0 A w M) a0 (ak.below M.bel) al (hc.below M.bel) am an (Y.below M.bel) ao (xH (iM.2 ⟨I,of_decide_eq_true I⟩)))))
 intro vf G e
 have E:=e 7 V
 refine Or.inl ⟨cC (congrArg some E.1) A,?_⟩
 exact aZ (aD [3] A) (aK (aU A))
 intro vf G e
 have E:=e 7 V
 have a9:=e 15 V
 refine Or.inl ⟨cC (congrArg some E.1) A,?_⟩
 exact bC (aX 24 a9.1 (aA _)) z9 (aK (eV A A A (aE Y)))
 intro vf G e
 have E:=e 7 V
 obtain⟨v8,B⟩:=dU (vf 10)
 obtain⟨p9,D⟩:=dU (G 10)
 have U:=e 10 V
 rw[B,D] at U
 obtain⟨b,g,rfl,rfl,a0⟩:=U
 have a6:=e 14 V
 have a7:=e 16 V
 refine Or.inl ⟨cC (congrArg some E.1) A,?_⟩
 exact bQ (aX 23 a6.1 (aX 25 a7.1 (aA _))) (by simp only[D,B,E.2,a6.2,a7.2,fS]<;>rfl) (dM (aK (jA A A A A)) (fun _ _ h=>⟨h.1.trans (congrArg Value.bool a2),h.2⟩))
 intro vf G e
 have E:=e 7 V
 have aa:=e 17 V
 exact fG A (aX 16 E.1 (aX 26 aa.1 (aA _))) (aK (aU A))
 intro vf G e
 obtain⟨v8,B⟩:=dU (vf 10)
 obtain⟨p9,D⟩:=dU (G 10)
 have U:=e 10 V
 rw[B,D] at U
 obtain⟨b,g,rfl,rfl,a0⟩:=U
 have ab:=e 18 V
 have q0:=e 0 V
 have q1:=e 1 V
 have q2:=e 2 V
 have q3:=e 3 V
 have q4:=e 4 V
 have q5:=e 5 V
 have q6:=e 6 V
 have q7:=e 7 V
 have q8:=e 8 V
 have q9:=e 9 V
 have ac:=e 11 V
 have ad:=e 12 V
 have ae:=e 13 V
 have af:=e 14 V
 have ag:=e 15 V
 have ah:=e 16 V
 have ai:=e 17 V
 have aj:=e 18 V
 refine cL (bE [8,4,3,2,1,0] _ (aX 27 ab.1 (aA _)) A) (by simp only[D,B,q0.2,q1.2,q2.2,q3.2,q4.2,q5.2,q6.2,q7.2,q8.2,q9.2,ac.2,ad.2,ae.2,af.2,ag.2,ah.2,ai.2,aj.2,fS]<;>rfl) ?_
 simp only[drop_succ_cons,drop_zero]
 refine go ?_
 exact aT A A (by have h7:=nF (d:=d) (pl:=pl) (cs:=cs) (ws:=ws);rw[iM] at h7;rw[h7.2 ⟨⟨I,of_decide_eq_true I⟩,O⟩])
 have ap:¬((ws.length:Int)<cntS d pl ws cs):=of_decide_eq_false a2
 refine eI A 19 [0,1,2,3,4,5,6,7,8,9,10,11,12,13,14,15,16,17,18] (List.take 19 _) (List.drop 19 _) [[],[0],[1],[2],[2],[2,3,4],[2,5],[6],[7],[7],[7,9],[7],[7],[7],[7,8,10,11,12,13],[7],[7,15],[7,10,14,16],[7,17]] [9,10,11,12,13,14,15,16,17,18,19,20,21,22,23,24,25,26,27] (fun i_ au J K=>match i_ with|0=>J=.agg #[jI d.W,jI d.H,jI d.T,jI d.R]∧K=[]|1=>J=.bool true∧K=[]|2=>J=.bool true∧K=[]|3=>J=.agg #[jI d.W,jI d.H,jI d.T,jI d.R]∧K=[]|4=>J=wv∧K=[]|5=>J=.bool true∧K=[]|6=>J=.bool true∧K=[]|7=>J=.bool true∧K=[]|8=>J=.agg #[jI d.W,jI d.H,jI d.T,jI d.R]∧K=[]|9=>J=.agg #[jI d.W,jI d.H,jI d.T,jI d.R]∧K=[]|10=>(fun v' post=>∃(b:Nat) (g:Gr),v'=pI b∧post=[grE b g]∧GrOk d (allI d).toNat g) J K|11=>J=pv∧K=[]|12=>J=cv∧K=[]|13=>J=wv∧K=[]|14=>J=jI (cntS d pl ws cs)∧K=[]|15=>J=wv∧K=[]|16=>J=jI (ws.length:Int)∧K=[]|17=>J=.bool false∧K=[]|18=>J=.bool false∧K=[]|_=>True) (take_append_drop 19 _).symm F F A A ?_ ?_
 refine⟨?_,?_,?_,?_,?_,?_,?_,?_,?_,?_,?_,?_,?_,?_,?_,?_,?_,?_,?_,trivial⟩
 intro vf G e
 exact eH A (aD [4] A) (aK (aP (cs:=[jI d.W,jI d.H,jI d.T,jI d.R]) A A A A A (aM 0 A 0 A)))
 intro vf G e
 have e0:=e 0 V
 exact eH A (aX 9 e0.1 (aA _)) (dM (aF A A (fun w M=>aI (eD d w))) (fun _ _ h=>⟨h.1.trans (congrArg Value.bool a1),h.2⟩))
 intro vf G e
 have e1:=e 1 V
 exact fG A (aX 10 e1.1 (aA _)) (aK (aU A))
 intro vf G e
 have Z:=e 2 V
 refine Or.inl ⟨cC (congrArg some Z.1) A,?_⟩
 exact bC (aD [4] A) z9 (aK (aP (cs:=[jI d.W,jI d.H,jI d.T,jI d.R]) A A A A A (aM 0 A 0 A)))
 intro vf G e
 have Z:=e 2 V
 refine Or.inl ⟨cC (congrArg some Z.1) A,?_⟩
 exact aZ (aD [3] A) (aK (aU A))
 intro vf G e
 have Z:=e 2 V
 have e3:=e 3 V
 have e4:=e 4 V
 refine Or.inl ⟨cC (congrArg some Z.1) A,?_⟩
 exact bC (aX 12 e3.1 (aX 13 e4.1 (aA _))) z9 (dM (aF A A (fun w M=>aI (lG d ws _ w (Y.below M.bel) O))) (fun _ _ h=>⟨h.1.trans (congrArg Value.bool a8),h.2⟩))
 intro vf G e
 have Z:=e 2 V
 have e5:=e 5 V
 exact fG A (aX 11 Z.1 (aX 14 e5.1 (aA _))) (aK (aU A))
 intro vf G e
 have e6:=e 6 V
 exact fG A (aX 15 e6.1 (aA _)) (aK (aU A))
 intro vf G e
 have E:=e 7 V
 refine Or.inl ⟨cC (congrArg some E.1) A,?_⟩
 exact bC (aD [4] A) z9 (aK (aP (cs:=[jI d.W,jI d.H,jI d.T,jI d.R]) A A A A A (aM 0 A 0 A)))
 intro vf G e
 have E:=e 7 V
 refine Or.inl ⟨cC (congrArg some E.1) A,?_⟩
 exact bC (aD [4] A) z9 (aK (aP (cs:=[jI d.W,jI d.H,jI d.T,jI d.R]) A A A A A (aM 0 A 0 A)))
 intro vf G e
 have E:=e 7 V
 have e9:=e 9 V
 refine Or.inl ⟨cC (congrArg some E.1) A,?_⟩
 exact bC (aX 18 e9.1 (aA _)) z9 (aF A A (fun w M=>mC d w I))
 intro vf G e
 have E:=e 7 V
 refine Or.inl ⟨cC (congrArg some E.1) A,?_⟩
 exact aZ (aD [1] A) (aK (aU A))
 intro vf G e
 have E:=e 7 V
 refine Or.inl ⟨cC (congrArg some E.1) A,?_⟩
 exact aZ (aD [2] A) (aK (aU A))
 intro vf G e
 have E:=e 7 V
 refine Or.inl ⟨cC (congrArg some E.1) A,?_⟩
 exact aZ (aD [3] A) (aK (aU A))
 intro vf G e
 have E:=e 7 V
 have e8:=e 8 V
 obtain⟨aq,B⟩:=dU (vf 10)
 obtain⟨ar,D⟩:=dU (G 10)
 have X:=e 10 V
 rw[B,D] at X
 obtain⟨b,g,rfl,rfl,a0⟩:=X
 have a3:=e 11 V
 have a4:=e 12 V
 have a5:=e 13 V
 refine Or.inl ⟨cC (congrArg some E.1) A,?_⟩
 exact bQ (aX 17 e8.1 (aX 19 B (aX 20 a3.1 (aX 21 a4.1 (aX 22 a5.1 (aA _)))))) (by simp only[D,B,E.2,e8.2,a3.2,a4.2,a5.2,fS]<;>rfl) (aF A A (fun w M=>aI (mD d b g pl _ cs _ ws _ w I (yS 0 A w M) a0 (ak.below M.bel) al (hc.below M.bel) am an (Y.below M.bel) ao (xH (iM.2 ⟨I,of_decide_eq_true I⟩)))))
 intro vf G e
 have E:=e 7 V
 refine Or.inl ⟨cC (congrArg some E.1) A,?_⟩
 exact aZ (aD [3] A) (aK (aU A))
 intro vf G e
 have E:=e 7 V
 have a9:=e 15 V
 refine Or.inl ⟨cC (congrArg some E.1) A,?_⟩
 exact bC (aX 24 a9.1 (aA _)) z9 (aK (eV A A A (aE Y)))
 intro vf G e
 have E:=e 7 V
 obtain⟨aq,B⟩:=dU (vf 10)
 obtain⟨ar,D⟩:=dU (G 10)
 have X:=e 10 V
 rw[B,D] at X
 obtain⟨b,g,rfl,rfl,a0⟩:=X
 have a6:=e 14 V
 have a7:=e 16 V
 refine Or.inl ⟨cC (congrArg some E.1) A,?_⟩
 exact bQ (aX 23 a6.1 (aX 25 a7.1 (aA _))) (by simp only[D,B,E.2,a6.2,a7.2,fS]<;>rfl) (dM (aK (jA A A A A)) (fun _ _ h=>⟨h.1.trans (congrArg Value.bool a2),h.2⟩))
 intro vf G e
 have E:=e 7 V
 have aa:=e 17 V
 exact fG A (aX 16 E.1 (aX 26 aa.1 (aA _))) (aK (aU A))
 intro vf G e
 obtain⟨aq,B⟩:=dU (vf 10)
 obtain⟨ar,D⟩:=dU (G 10)
 have X:=e 10 V
 rw[B,D] at X
 obtain⟨b,g,rfl,rfl,a0⟩:=X
 have ab:=e 18 V
 have q0:=e 0 V
 have q1:=e 1 V
 have q2:=e 2 V
 have q3:=e 3 V
 have q4:=e 4 V
 have q5:=e 5 V
 have q6:=e 6 V
 have q7:=e 7 V
 have q8:=e 8 V
 have q9:=e 9 V
 have ac:=e 11 V
 have ad:=e 12 V
 have ae:=e 13 V
 have af:=e 14 V
 have ag:=e 15 V
 have ah:=e 16 V
 have ai:=e 17 V
 have aj:=e 18 V
 refine cL (bE [8,4,3,2,1,0] _ (aX 27 ab.1 (aA _)) A) (by simp only[D,B,q0.2,q1.2,q2.2,q3.2,q4.2,q5.2,q6.2,q7.2,q8.2,q9.2,ac.2,ad.2,ae.2,af.2,ag.2,ah.2,ai.2,aj.2,fS]<;>rfl) ?_
 simp only[drop_succ_cons,drop_zero]
 refine go ?_
 exact aT rfl rfl (by have h7:=nF (d:=d) (pl:=pl) (cs:=cs) (ws:=ws);rw[iM] at h7;rw[show crB d pl cs ws=false from Bool.eq_false_iff.2 (fun h9=>by have h8:=h7.1 h9;first|omega|simp_all)]<;>rfl)
 refine bL 19 [[],[0],[1],[2],[2],[2,3,4],[2,5],[6],[7],[7],[7],[7],[7],[7],[7],[7],[7],[7],[7,17]] [9,10,11,12,13,14,15,16,17,18,19,20,21,22,23,24,25,26,27] [.agg #[jI d.W,jI d.H,jI d.T,jI d.R],.bool true,.bool true,.agg #[jI d.W,jI d.H,jI d.T,jI d.R],wv,.bool false,.bool false,.bool false,undef,undef,undef,undef,undef,undef,undef,undef,undef,undef,.bool false] F A ?_ ?_
 exact⟨aJ,.inl ⟨A,iP (aF A A (fun w M=>aI (eD d w))) a1⟩,aJ,aJ,aJ,.inl ⟨A,iP (aF A A (fun w M=>aI (lG d ws _ w (Y.below M.bel) O))) a8⟩,aJ,aJ,aJ,aJ,aJ,aJ,aJ,aJ,aJ,aJ,aJ,aJ,aJ,trivial⟩
 simp only[drop_succ_cons,drop_zero]
 refine go ?_
 exact aT rfl rfl (by have h7:=nF (d:=d) (pl:=pl) (cs:=cs) (ws:=ws);rw[iM] at h7;rw[show crB d pl cs ws=false from Bool.eq_false_iff.2 (fun h9=>by have h8:=h7.1 h9;first|omega|simp_all)]<;>rfl)
 refine bL 19 [[],[0],[1],[2],[2],[2],[2,5],[6],[7],[7],[7],[7],[7],[7],[7],[7],[7],[7],[7,17]] [9,10,11,12,13,14,15,16,17,18,19,20,21,22,23,24,25,26,27] [.agg #[jI d.W,jI d.H,jI d.T,jI d.R],.bool false,.bool false,undef,undef,undef,.bool false,.bool false,undef,undef,undef,undef,undef,undef,undef,undef,undef,undef,.bool false] F A ?_ ?_
 exact⟨aJ,.inl ⟨A,iP (aF A A (fun w M=>aI (eD d w))) a1⟩,aJ,aJ,aJ,aJ,aJ,aJ,aJ,aJ,aJ,aJ,aJ,aJ,aJ,aJ,aJ,aJ,aJ,trivial⟩
 simp only[drop_succ_cons,drop_zero]
 refine go ?_
 exact aT rfl rfl (by have h7:=nF (d:=d) (pl:=pl) (cs:=cs) (ws:=ws);rw[iM] at h7;rw[show crB d pl cs ws=false from Bool.eq_false_iff.2 (fun h9=>by have h8:=h7.1 h9;first|omega|simp_all)]<;>rfl)
open Go.RowKit
def outB (d:Dev) (x:Int):Bool:=nodeOkI d x&&(decide (x % perI d=5)||decide (x % perI d=6))
def inB (d:Dev) (x:Int):Bool:=nodeOkI d x&&decide (x % perI d<5)
theorem TrP.one {d:Dev}{s:Int}{B:List Int}{k:Nat}(h:∀i,i<k→B.getD i 0=s∨∃j,j<i∧B.getD j 0∈srcI d (B.getD i 0)) (D:B.getD k 0=s∨∃j,j<k∧B.getD j 0∈srcI d (B.getD k 0)):∀i,i<k+1→B.getD i 0=s∨∃j,j<i∧B.getD j 0∈srcI d (B.getD i 0):=fun i E=>by
  by_cases e:i=k
  · subst e;exact D
  · exact h i O
theorem Ee {xs:List Int}{f:Int}{k:Nat}(e:0≤f) (B:f<k) {S:List Int}(h:hasB S (xs.getD f.toNat 0)=true):∃j,j<k∧xs.getD j 0∈S:=⟨f.toNat,O,mV.1 h⟩
theorem Kr {e B:List Int}{x:Int}(D:B=e.reverse) (h:List.contains B x=true):x∈e:=by
  rw[D,List.contains_iff_mem,List.mem_reverse] at h;exact h
theorem oX (d:Dev) (x:Int) (w:World)  :
   Calls Tryz.prog 74 #[.agg #[.int .i64 d.W,.int .i64 d.H,.int .i64 d.T,.int .i64 d.R],.int .i64 x] w (Ans w (.bool (outB d x))):=by
 refine aY (N:=23) (args:=[.agg #[jI d.W,jI d.H,jI d.T,jI d.R],jI x]) Tryz.func74 A A (dW ?_)
 refine cU A (cE A A) fun U=>go ?_
 refine cM A (aF A A (fun w E=>aI (gO d _ w))) (bD (fun h=>go ?_) (fun h=>go ?_))
 obtain⟨e,B,D⟩:=fN h
 obtain⟨G,J⟩:=eM e
 refine cM A (aF A A (fun w E=>aI (gT d _ e O O w))) (go ?_)
 refine bZ A A A A A A (fun K=>go ?_) (fun K=>go ?_)
 exact aT A A (by unfold outB;simp[*]<;>omega)
 refine bZ A A A A A A (fun M=>go ?_) (fun M=>go ?_)
 exact aT A A (by unfold outB;simp[*]<;>omega)
 exact aT A A (by unfold outB;simp[*]<;>omega)
 exact aT A A (by unfold outB;simp[*]<;>omega)
theorem qX (d:Dev) (x:Int) (w:World)  :
   Calls Tryz.prog 77 #[.agg #[.int .i64 d.W,.int .i64 d.H,.int .i64 d.T,.int .i64 d.R],.int .i64 x] w (Ans w (.bool (inB d x))):=by
 refine aY (N:=19) (args:=[.agg #[jI d.W,jI d.H,jI d.T,jI d.R],jI x]) Tryz.func77 A A (dW ?_)
 refine cU A (cE A A) fun M=>go ?_
 refine cM A (aF A A (fun w E=>aI (gO d _ w))) (bD (fun h=>go ?_) (fun h=>go ?_))
 obtain⟨e,B,D⟩:=fN h
 obtain⟨G,J⟩:=eM e
 refine cM A (aF A A (fun w E=>aI (gT d _ e O O w))) (go ?_)
 refine aW A A A A A A (fun K=>go ?_) (fun K=>go ?_)
 exact aT A A (by unfold inB;simp[*]<;>omega)
 exact aT A A (by unfold inB;simp[*]<;>omega)
 exact aT A A (by unfold inB;simp[*]<;>omega)
end Go.Proofs.YtkbplgggflljlaaGreat
