/- Texts of the law FnEqualMeans, part 2: what it uses. -/
import Derived.Test.YthmbefiklpoghaaGreatEqm1
set_option linter.unusedVariables false
set_option linter.unusedSimpArgs false
set_option maxHeartbeats 4000000
set_option maxRecDepth 100000
namespace Go.Proofs.YthmbefiklpoghaaGreat
open Go.RowKit Go.ChangeShapes
open Go.RowKit
theorem uG (g:Nat) (a:Option Addr) (len cap:Nat) (z:List Int) (q1 q2 q3:Int) (w0:World) (l:List HP) (w:World) (hm0:Mem w0 (curE g a len cap::l) w) (hb:BRow .u8 w0 a len cap z) (hq1:1≤q1∧q1≤6) (hq2:0≤q2∧q2≤4) (hq3:0≤q3∧q3≤30) :
   Calls Tryz.prog 68 #[.pointer (some ⟨g,0,none⟩),.int .i64 q1,.int .i64 q2,.int .i64 q3] w (fun e_ w_=>∃v_ p_,e_=.returned v_∧(fun u_ p_=>∃n:Nt,u_=n.agg∧p_=bigE [curE g a len cap,ntE n]∧(n.sv.oneCell'=true∧n.av.oneCell'=true∧n.ov.oneCell'=true)∧NtOk n∧n.ins≤q1∧(n.ss.length:Int)≤q2∧(n.gs.length:Int)≤q3∧1≤n.os.length) v_ p_∧Mem w0 (p_::l) w_):=by
 refine fW (N:=131) (args:=[pI g,jI q1,jI q2,jI q3]) Tryz.func68 A A hm0 (cF ?_)
 refine cR A (bP (z:=.agg #[jI 0,.slice none 0 0,.slice none 0 0,.slice none 0 0]) A A) ?_
 intro b1
 refine bR (aC (bZ 2 A ?_))
 refine eH (R:=(fun u_ p_=>(∃x_:Int,u_=jI x_∧0≤x_∧x_<q1)∧p_=curE g a len cap)) 1 A A A A A (fun l' w hm=>dW g a len cap z q1 _ _ _ hm hb (by constructor<;>omega)) ?_
 intro v2 p3 R4
 obtain⟨⟨x4,rfl,x40,x41⟩,rfl⟩:=R4
 refine eC (l':=(eB9 b1::curE g a len cap::l)) A ?_
 refine aP A (dM A A A) (aP A (dQ (cs:=#[jI (1+x4),.slice none 0 0,.slice none 0 0,.slice none 0 0]) A A A) ?_)
 refine cR A (bP (z:=.agg #[jI 0,.slice none 0 0,.slice none 0 0,.slice none 0 0]) A A) ?_
 intro b5
 refine bI (cs':=#[jI (1+x4),.slice none 0 0,.slice none 0 0,.slice none 0 0]) (i:=0) (off:=0) (us:=[jI (1+x4),.slice none 0 0,.slice none 0 0,.slice none 0 0]) A A A A A A A (aA A (aA A (aA A (aA A bA)))) A A A (bR (aC (bZ 2 A (aP A (dM A A A) ?_))))
 refine eH (R:=(fun u_ p_=>(∃x_:Int,u_=jI x_∧0≤x_∧x_<q2+1)∧p_=curE g a len cap)) 2 A A A A A (fun l' w hm=>dW g a len cap z (q2+1) _ _ _ hm hb (by constructor<;>omega)) ?_
 intro v6 p7 R8
 obtain⟨⟨x8,rfl,x80,x81⟩,rfl⟩:=R8
 refine eC (l':=(boxE b5 #[jI (1+x4),.slice none 0 0,.slice none 0 0,.slice none 0 0] 28::eB9 b1::curE g a len cap::l)) A ?_
 refine aU 1 A (aC (bZ 2 A (aP A (dM A A A) ?_)))
 refine eH (R:=(fun u_ p_=>(∃x_:Int,u_=jI x_∧0≤x_∧x_<q3+1)∧p_=curE g a len cap)) 2 A A A A A (fun l' w hm=>dW g a len cap z (q3+1) _ _ _ hm hb (by constructor<;>omega)) ?_
 intro v9 p10 R11
 obtain⟨⟨x11,rfl,x110,x111⟩,rfl⟩:=R11
 refine eC (l':=(boxE b5 #[jI (1+x4),.slice none 0 0,.slice none 0 0,.slice none 0 0] 28::eB9 b1::curE g a len cap::l)) A ?_
 refine aU 1 A (cF (aP A (cQ 0 A A A) (aP A (aN A A A (aH 0 A A)) (aP A (dM A A A) (aM 1 A (aP A (dM A A A) (dJ 1 A ?_)))))))
 refine bF (aC (bD 1 A (bE ?_)))
 refine fE (rowE 3 1 (.slice none 0 0) 0 ([])::boxE b5 #[jI (1+x4),.slice none 0 0,.slice none 0 0,.slice none 0 0] 28::eB9 b1::curE g a len cap::l) (fun w hm=>hm.nilRow 3 1) ?_
 refine fE (rowE 67 2 (.slice none 0 0) 0 ([])::rowE 3 1 (.slice none 0 0) 0 ([])::boxE b5 #[jI (1+x4),.slice none 0 0,.slice none 0 0,.slice none 0 0] 28::eB9 b1::curE g a len cap::l) (fun w hm=>hm.nilRow 67 2) ?_
 refine fE (rowE 46 3 (.slice none 0 0) 0 ([])::rowE 67 2 (.slice none 0 0) 0 ([])::rowE 3 1 (.slice none 0 0) 0 ([])::boxE b5 #[jI (1+x4),.slice none 0 0,.slice none 0 0,.slice none 0 0] 28::eB9 b1::curE g a len cap::l) (fun w hm=>hm.nilRow 46 3) ?_
 refine fE _ lT ?_
 refine iC (α:=Nat) (β:=Value) (γ:=List An) [0,1,2,3,8,9,10,11,12] A (fun i u gs=>(bigE ([]:List HP)::rowE 46 3 (.slice none 0 0) 0 ([])::rS9 67 2 u gs anC::rowE 3 1 (.slice none 0 0) 0 ([])::boxE b5 #[jI (1+x4),.slice none 0 0,u,.slice none 0 0] 28::eB9 b1::curE g a len cap::l)) (fun i u gs=>[(13,jI (i:Int))]) (fun i u gs=>(i:Int)≤x11∧gs.length=i∧AnsOk ((1+(1+x4))+x8) gs) (fun i u gs=>x11.toNat-i) 0 _ [] ⟨by omega,A,fun k hk=>absurd hk (by simp)⟩ (cT A) (.refl _) ?_
 intro i u gs hi12
 obtain⟨hi,hgl,hgo⟩:=hi12
 refine aC (aC (bZ 2 A ?_))
 refine bQ A A A A A A (fun h13=>?_) (fun h13=>?_)
 refine bR (aR A (bY (fM (aC (bZ 2 A (aP A (dM A A A) (aP A (fO A A A (by constructor<;>omega)) (aM 1 A ?_))))))))
 refine bR (aC (bZ 1 A (aP A (iM A A A) (aM 2 A (aP A (iM A A A) (aP A (oH A A A) ?_))))))
 refine eH (R:=(fun u_ p_=>(∃x_:Int,u_=jI x_∧0≤x_∧x_<min ((2*(((1+(1+x4))+x8)+(i:Int)))-1) 14)∧p_=curE g a len cap)) 6 A A A A A (fun l' w hm=>dW g a len cap z (min ((2*(((1+(1+x4))+x8)+(i:Int)))-1) 14) _ _ _ hm hb (by constructor<;>omega)) ?_
 intro v14 p15 R16
 obtain⟨⟨x16,rfl,x160,x161⟩,rfl⟩:=R16
 refine eC (l':=(bigE ([]:List HP)::rowE 46 3 (.slice none 0 0) 0 ([])::rS9 67 2 u gs anC::rowE 3 1 (.slice none 0 0) 0 ([])::boxE b5 #[jI (1+x4),.slice none 0 0,u,.slice none 0 0] 28::eB9 b1::curE g a len cap::l)) A ?_
 refine aP A (iM A A A) (aU 1 A ?_)
 refine eE 7 [5,4,3,2,1,0,6] A A (by decide) ?_
 refine gG (l:=(bigE ([]:List HP)::rowE 46 3 (.slice none 0 0) 0 ([])::rS9 67 2 u gs anC::rowE 3 1 (.slice none 0 0) 0 ([])::boxE b5 #[jI (1+x4),.slice none 0 0,u,.slice none 0 0] 28::eB9 b1::l)) A 8 [0,1,2,3,4,5,6,7] (List.take 8 _) (List.drop 8 _) [[],[0],[],[],[],[3,4],[2,5],[5,6]] [54,55,56,57,58,59,60,61] (fun i_ vs_ v_ p_=>match i_ with|0=>v_=.pointer (some ⟨b5,0+2,none⟩)∧p_=[]|1=>v_=u∧p_=[]|2=>v_=jI (((2*(((1+(1+x4))+x8)+(i:Int)))-1)-x16)∧p_=[]|3=>v_=pI g∧p_=[]|4=>v_=jI (2*(((1+(1+x4))+x8)+(i:Int)))∧p_=[]|5=>(∃pm_,p_=[pm_]∧(fun u_ p_=>(∃x_:Int,u_=jI x_∧0≤x_∧x_<2*(((1+(1+x4))+x8)+(i:Int)))∧p_=curE g a len cap) v_ pm_)|6=>v_=.agg #[jI (((2*(((1+(1+x4))+x8)+(i:Int)))-1)-x16),jI (intOf_o (gV9 vs_ 1))]∧p_=[]|7=>IsRow 67 2 1 (mI [((2*(((1+(1+x4))+x8)+(i:Int)))-1)-x16,(intOf_o (gV9 vs_ 0))]) v_ p_|_=>True) [[],[0],[],[],[],[3,4],[2,5],[5,6]] [none,none,none,none,none,some 11,none,none] [curE g a len cap] [0,1,2,3,4,5,6,7] 11 (List.take_append_drop 8 _).symm (by kernel_rfl) (by kernel_rfl) (by kernel_rfl) A A ?_ ?_
 refine⟨?_,?_,?_,?_,?_,?_,?_,?_,trivial⟩
 intro vf pf hmu hR
 refine fG [] [] A (bH (aI [9] A) ?_)
 exact aT (cQ 2 A A A)
 intro vf pf hmu hR
 have e0:=hR 0 (by decide)
 refine fG [0] [0] A (aW (sk 54 (congrArg some e0.1) (aB _)) (List.sublist_append_right _ _) ?_)
 exact aT (aN A A A (aH 4 A A))
 intro vf pf hmu hR
 refine fG [] [] A (bH (aI [15] A) ?_)
 exact aT (aK A)
 intro vf pf hmu hR
 refine fG [] [] A (bH (aI [0] A) ?_)
 exact aT (aK A)
 intro vf pf hmu hR
 refine fG [] [] A (bH (aI [14] A) ?_)
 exact aT (aK A)
 intro vf pf hmu hR
 have e3:=hR 3 (by decide)
 have e4:=hR 4 (by decide)
 refine Or.inl ⟨A,?_⟩
 show RunM _ _ _ (pf 11) (([3,4]:List Nat).flatMap pf++_) (envOf _ vf [3,4]++_) _ _
 rw[hmu]
 exact cV (sk 57 (congrArg some e3.1) (sk 58 (congrArg some e4.1) (aB _))) (by simp only[e3.2,e4.2,fS]<;>rfl) (eY (R:=(fun u_ p_=>(∃x_:Int,u_=jI x_∧0≤x_∧x_<2*(((1+(1+x4))+x8)+(i:Int)))∧p_=curE g a len cap)) A A (fun L w hX hm=>dW g a len cap z (2*(((1+(1+x4))+x8)+(i:Int))) _ _ _ hm hb (by constructor<;>omega)))
 intro vf pf hmu hR
 have e2:=hR 2 (by decide)
 have e5:(∃pm_,(pf 5)=[pm_]∧(fun u_ p_=>(∃x_:Int,u_=jI x_∧0≤x_∧x_<2*(((1+(1+x4))+x8)+(i:Int)))∧p_=curE g a len cap) (vf 5) pm_):=hR 5 (by decide)
 obtain⟨p18,pE5,R19⟩:=e5
 obtain⟨v17,vE5⟩:∃x,vf 5=x:=⟨_,rfl⟩
 rw[vE5] at R19
 obtain⟨⟨x19,rfl,x190,x191⟩,rfl⟩:=R19
 refine fG [2,5] [2,5] A (bU (sk 56 (congrArg some e2.1) (sk 59 (congrArg some vE5) (aB _))) (by simp only[pE5,vE5,e2.2,fS]<;>rfl) ?_)
 exact cD (aT (dQ (cs:=#[jI (((2*(((1+(1+x4))+x8)+(i:Int)))-1)-x16),jI x19]) A A A)) (fun _ _ h=>⟨h.1.trans (by show _=(.agg #[jI (((2*(((1+(1+x4))+x8)+(i:Int)))-1)-x16),jI (intOf_o (vf 5))]:Value);first|(rw[vE5];done)|(rw[vE5];rfl)),h.2⟩)
 intro vf pf hmu hR
 have e5:(∃pm_,(pf 5)=[pm_]∧(fun u_ p_=>(∃x_:Int,u_=jI x_∧0≤x_∧x_<2*(((1+(1+x4))+x8)+(i:Int)))∧p_=curE g a len cap) (vf 5) pm_):=hR 5 (by decide)
 obtain⟨p18,pE5,R19⟩:=e5
 obtain⟨v17,vE5⟩:∃x,vf 5=x:=⟨_,rfl⟩
 rw[vE5] at R19
 obtain⟨⟨x19,rfl,x190,x191⟩,rfl⟩:=R19
 have e6:(vf 6)=.agg #[jI (((2*(((1+(1+x4))+x8)+(i:Int)))-1)-x16),jI (intOf_o (vf 5))]∧(pf 6)=[]:=hR 6 (by decide)
 rw[vE5] at e6
 refine fG [5,6] [5,6] A (bU (sk 60 (congrArg some e6.1) (aB _)) (by simp only[pE5,vE5,e6.2,fS]<;>rfl) ?_)
 exact cD (bB (z:=.agg #[jI 0,jI 0]) (s:=2) (cs:=(mI [((2*(((1+(1+x4))+x8)+(i:Int)))-1)-x16,x19])) A Tryz.underlying25 A (by decide) A (by kernel_rfl) A) (fun v_ p_ h=>by show IsRow 67 2 1 (mI [((2*(((1+(1+x4))+x8)+(i:Int)))-1)-x16,(intOf_o (vf 5))]) v_ p_;rw[vE5];exact h)
 intro vf pf hmu hR
 have e1:=hR 1 (by decide)
 have e5:(∃pm_,(pf 5)=[pm_]∧(fun u_ p_=>(∃x_:Int,u_=jI x_∧0≤x_∧x_<2*(((1+(1+x4))+x8)+(i:Int)))∧p_=curE g a len cap) (vf 5) pm_):=hR 5 (by decide)
 obtain⟨p18,pE5,R19⟩:=e5
 obtain⟨v17,vE5⟩:∃x,vf 5=x:=⟨_,rfl⟩
 rw[vE5] at R19
 obtain⟨⟨x19,rfl,x190,x191⟩,rfl⟩:=R19
 have e7:IsRow 67 2 1 (mI [((2*(((1+(1+x4))+x8)+(i:Int)))-1)-x16,(intOf_o (vf 5))]) (vf 7) (pf 7):=hR 7 (by decide)
 rw[vE5] at e7
 obtain⟨g20,vE7,pE7⟩:=e7
 have q0:=hR 0 (by decide)
 have q1:=hR 1 (by decide)
 have q2:=hR 2 (by decide)
 have q3:=hR 3 (by decide)
 have q4:=hR 4 (by decide)
 have q6:=hR 6 (by decide)
 refine cE (bO [39,15,14,13,12,11,10,9,8,3,2,1,0] _ (sk 55 (congrArg some e1.1) (sk 61 (congrArg some vE7) (aB _))) A) (by simp only[pE5,vE5,pE7,vE7,q0.2,q1.2,q2.2,q3.2,q4.2,q6.2,fS]<;>rfl) ?_
 simp only[List.drop_succ_cons,List.drop_zero]
 refine cW (i:=4) (z:=.agg #[jI 0,jI 0]) (bytes:=16) A A A A Tryz.underlying25 (by kernel_rfl) A A A A (aG 1 A) (cO _) (by first|omega|(simp only[List.length_append,List.length_cons,List.length_nil];omega)) (cH gs [(An.mk (((2*(((1+(1+x4))+x8)+(i:Int)))-1)-x16) x19)]) (dY anC gs (An.mk (((2*(((1+(1+x4))+x8)+(i:Int)))-1)-x16) x19) _ A) (fun _=>A) ?_
 intro v21
 refine aP A (cQ 2 A A A) (dZ (i:=4) A (fun ho22=>?_))
 refine fI (i:=6) (cs':=#[jI (1+x4),.slice none 0 0,v21,.slice none 0 0]) A A A A A A ho22 A A A A (dB (cK (bZ 1 A (aP A (dM A A A) (dJ 1 A ?_)))))
 refine aZ 8 [0,7,6,5,4,3,2] A A (by decide) ?_
 exact cI (i+1) v21 (gs++[(An.mk (((2*(((1+(1+x4))+x8)+(i:Int)))-1)-x16) x19)]) ⟨by omega,by simp;omega,Ar hgo (by unfold LtOk;omega) (by unfold LtOk;omega)⟩ (by omega) (cT A) (.refl _)
 refine bR (aS A ?_)
 refine bM (dI ?_)
 refine aO (bF (aC (bZ 2 A (aP A (dM A A A) (aP A (fO A A A (by constructor<;>omega)) (aU 1 A (aC (aC (bZ 1 A ?_)))))))))
 refine bR (bE ?_)
 refine iC (α:=Nat) (β:=Value) (γ:=List Sq) [0,1,2,3,8,9,10,11,12,16,39] A (fun i uq ss=>(bigE (ss.map sqPart)::rS9 46 3 uq ss sqC::rS9 67 2 u gs anC::rowE 3 1 (.slice none 0 0) 0 ([])::boxE b5 #[jI (1+x4),uq,u,.slice none 0 0] 28::eB9 b1::curE g a len cap::l)) (fun i uq ss=>[(17,jI (i:Int))]) (fun i uq ss=>(i:Int)≤x8∧ss.length=i∧SqsOk (((1+(1+x4))+x8)+x11) ss) (fun i uq ss=>x8.toNat-i) 0 _ [] ⟨by omega,A,fun k hk=>absurd hk (by simp)⟩ (cT A) (.refl _) ?_
 intro i uq ss hi23
 obtain⟨hi2,hsl,hso⟩:=hi23
 refine aC (aC (bZ 2 A ?_))
 refine bQ A A A A A A (fun h24=>?_) (fun h24=>?_)
 refine bR (aR A (bY (fM (aC (bZ 1 A ?_)))))
 refine eH (R:=(fun u_ p_=>(∃b:Bool,u_=.bool b)∧p_=curE g a len cap)) 6 A A A A A (fun l' w hm=>qQ hm hb (6) (by omega) (by omega)) ?_
 intro v25 p26 R27
 obtain⟨⟨x27,rfl⟩,rfl⟩:=R27
 refine eC (l':=(bigE (ss.map sqPart)::rS9 46 3 uq ss sqC::rS9 67 2 u gs anC::rowE 3 1 (.slice none 0 0) 0 ([])::boxE b5 #[jI (1+x4),uq,u,.slice none 0 0] 28::eB9 b1::curE g a len cap::l)) A ?_
 refine bW (fun h28=>?_) (fun h28=>?_)
 refine bR (aR A ?_)
 refine eE 7 [5,4,3,2,1,0,6] A A (by decide) ?_
 refine gG (l:=(bigE (ss.map sqPart)::rS9 46 3 uq ss sqC::rS9 67 2 u gs anC::rowE 3 1 (.slice none 0 0) 0 ([])::boxE b5 #[jI (1+x4),uq,u,.slice none 0 0] 28::eB9 b1::l)) A 19 [0,1,2,3,4,5,6,7,8,9,10,11,12,13,14,15,16,17,18] (List.take 19 _) (List.drop 19 _) [[],[0],[],[2],[],[],[3,4,5],[],[],[6,7,8],[],[],[9,10,11],[],[],[12,13,14],[6,9,12,15],[3,6,9,12,15,16],[3,6,9,12,15,16,17]] [75,76,77,78,79,80,81,82,83,84,85,86,87,88,89,90,91,92,93] (fun i_ vs_ v_ p_=>match i_ with|0=>v_=.pointer (some ⟨b5,0+1,none⟩)∧p_=[]|1=>v_=uq∧p_=[]|2=>v_=pI g∧p_=[]|3=>(∃pm_,p_=[pm_]∧(fun u_ p_=>(∃x_:Int,u_=jI x_∧0≤x_∧x_<32)∧p_=curE g a len cap) v_ pm_)|4=>v_=pI g∧p_=[]|5=>v_=jI (2*(((1+(1+x4))+x8)+x11))∧p_=[]|6=>(∃pm_,p_=[pm_]∧(fun u_ p_=>(∃x_:Int,u_=jI x_∧0≤x_∧x_<2*(((1+(1+x4))+x8)+x11))∧p_=curE g a len cap) v_ pm_)|7=>v_=pI g∧p_=[]|8=>v_=jI (2*(((1+(1+x4))+x8)+x11))∧p_=[]|9=>(∃pm_,p_=[pm_]∧(fun u_ p_=>(∃x_:Int,u_=jI x_∧0≤x_∧x_<2*(((1+(1+x4))+x8)+x11))∧p_=curE g a len cap) v_ pm_)|10=>v_=pI g∧p_=[]|11=>v_=jI (2*(((1+(1+x4))+x8)+x11))∧p_=[]|12=>(∃pm_,p_=[pm_]∧(fun u_ p_=>(∃x_:Int,u_=jI x_∧0≤x_∧x_<2*(((1+(1+x4))+x8)+x11))∧p_=curE g a len cap) v_ pm_)|13=>v_=pI g∧p_=[]|14=>v_=jI (2*(((1+(1+x4))+x8)+x11))∧p_=[]|15=>(∃pm_,p_=[pm_]∧(fun u_ p_=>(∃x_:Int,u_=jI x_∧0≤x_∧x_<2*(((1+(1+x4))+x8)+x11))∧p_=curE g a len cap) v_ pm_)|16=>IsRow 3 1 4 (mI [(intOf_o (gV9 vs_ 0)),(intOf_o (gV9 vs_ 1)),(intOf_o (gV9 vs_ 2)),(intOf_o (gV9 vs_ 3))]) v_ p_|17=>v_=.agg #[jI 1,jI (intOf_o (gV9 vs_ 0)),(gV9 vs_ 5)]∧p_=[]|18=>IsRow 46 3 1 ([jI 1,jI (intOf_o (gV9 vs_ 0)),(gV9 vs_ 5)]) v_ p_|_=>True) [[],[0],[],[2],[],[],[4,5],[],[],[7,8],[],[],[10,11],[],[],[13,14],[15],[15,16],[15,16,17]] [none,none,none,some 22,none,none,some 3,none,none,some 6,none,none,some 9,none,none,some 12,none,none,none] [curE g a len cap] [0,1,2,4,5,7,8,10,11,13,14,15,16,17,18] 22 (List.take_append_drop 19 _).symm (by kernel_rfl) (by kernel_rfl) (by kernel_rfl) A A ?_ ?_
 refine⟨?_,?_,?_,?_,?_,?_,?_,?_,?_,?_,?_,?_,?_,?_,?_,?_,?_,?_,?_,trivial⟩
 intro vf pf hmu hR
 refine fG [] [] A (bH (aI [9] A) ?_)
 exact aT (cQ 1 A A A)
 intro vf pf hmu hR
 have e0:=hR 0 (by decide)
 refine fG [0] [0] A (aW (sk 75 (congrArg some e0.1) (aB _)) (List.sublist_append_right _ _) ?_)
 exact aT (aN A A A (aH 4 A A))
 intro vf pf hmu hR
 refine fG [] [] A (bH (aI [0] A) ?_)
 exact aT (aK A)
 intro vf pf hmu hR
 have e2:=hR 2 (by decide)
 refine Or.inl ⟨A,?_⟩
 show RunM _ _ _ (pf 22) (([2]:List Nat).flatMap pf++_) (envOf _ vf [2]++_) _ _
 rw[hmu]
 exact cV (sk 77 (congrArg some e2.1) (aB _)) (by simp only[e2.2,fS]<;>rfl) (eY (R:=(fun u_ p_=>(∃x_:Int,u_=jI x_∧0≤x_∧x_<32)∧p_=curE g a len cap)) A A (fun L w hX hm=>dW g a len cap z 32 _ _ _ hm hb (by constructor<;>omega)))
 intro vf pf hmu hR
 refine fG [] [] A (bH (aI [0] A) ?_)
 exact aT (aK A)
 intro vf pf hmu hR
 refine fG [] [] A (bH (aI [16] A) ?_)
 exact aT (aK A)
 intro vf pf hmu hR
 have e3:(∃pm_,(pf 3)=[pm_]∧(fun u_ p_=>(∃x_:Int,u_=jI x_∧0≤x_∧x_<32)∧p_=curE g a len cap) (vf 3) pm_):=hR 3 (by decide)
 obtain⟨p30,pE3,R31⟩:=e3
 obtain⟨v29,vE3⟩:∃x,vf 3=x:=⟨_,rfl⟩
 rw[vE3] at R31
 obtain⟨⟨x31,rfl,x310,x311⟩,rfl⟩:=R31
 have e4:=hR 4 (by decide)
 have e5:=hR 5 (by decide)
 refine Or.inl ⟨A,?_⟩
 show RunM _ _ _ (pf 3) (([4,5]:List Nat).flatMap pf++_) (envOf _ vf [3,4,5]++_) _ _
 rw[pE3]
 exact cV (sk 79 (congrArg some e4.1) (sk 80 (congrArg some e5.1) (aB _))) (by simp only[e4.2,e5.2,fS]<;>rfl) (eY (R:=(fun u_ p_=>(∃x_:Int,u_=jI x_∧0≤x_∧x_<2*(((1+(1+x4))+x8)+x11))∧p_=curE g a len cap)) A A (fun L w hX hm=>dW g a len cap z (2*(((1+(1+x4))+x8)+x11)) _ _ _ hm hb (by constructor<;>omega)))
 intro vf pf hmu hR
 refine fG [] [] A (bH (aI [0] A) ?_)
 exact aT (aK A)
 intro vf pf hmu hR
 refine fG [] [] A (bH (aI [16] A) ?_)
 exact aT (aK A)
 intro vf pf hmu hR
 have e6:(∃pm_,(pf 6)=[pm_]∧(fun u_ p_=>(∃x_:Int,u_=jI x_∧0≤x_∧x_<2*(((1+(1+x4))+x8)+x11))∧p_=curE g a len cap) (vf 6) pm_):=hR 6 (by decide)
 obtain⟨p33,pE6,R34⟩:=e6
 obtain⟨v32,vE6⟩:∃x,vf 6=x:=⟨_,rfl⟩
 rw[vE6] at R34
 obtain⟨⟨x34,rfl,x340,x341⟩,rfl⟩:=R34
 have e7:=hR 7 (by decide)
 have e8:=hR 8 (by decide)
 refine Or.inl ⟨A,?_⟩
 show RunM _ _ _ (pf 6) (([7,8]:List Nat).flatMap pf++_) (envOf _ vf [6,7,8]++_) _ _
 rw[pE6]
 exact cV (sk 82 (congrArg some e7.1) (sk 83 (congrArg some e8.1) (aB _))) (by simp only[e7.2,e8.2,fS]<;>rfl) (eY (R:=(fun u_ p_=>(∃x_:Int,u_=jI x_∧0≤x_∧x_<2*(((1+(1+x4))+x8)+x11))∧p_=curE g a len cap)) A A (fun L w hX hm=>dW g a len cap z (2*(((1+(1+x4))+x8)+x11)) _ _ _ hm hb (by constructor<;>omega)))
 intro vf pf hmu hR
 refine fG [] [] A (bH (aI [0] A) ?_)
 exact aT (aK A)
 intro vf pf hmu hR
 refine fG [] [] A (bH (aI [16] A) ?_)
 exact aT (aK A)
 intro vf pf hmu hR
 have e9:(∃pm_,(pf 9)=[pm_]∧(fun u_ p_=>(∃x_:Int,u_=jI x_∧0≤x_∧x_<2*(((1+(1+x4))+x8)+x11))∧p_=curE g a len cap) (vf 9) pm_):=hR 9 (by decide)
 obtain⟨p36,pE9,R37⟩:=e9
 obtain⟨v35,vE9⟩:∃x,vf 9=x:=⟨_,rfl⟩
 rw[vE9] at R37
 obtain⟨⟨x37,rfl,x370,x371⟩,rfl⟩:=R37
 have e10:=hR 10 (by decide)
 have e11:=hR 11 (by decide)
 refine Or.inl ⟨A,?_⟩
 show RunM _ _ _ (pf 9) (([10,11]:List Nat).flatMap pf++_) (envOf _ vf [9,10,11]++_) _ _
 rw[pE9]
 exact cV (sk 85 (congrArg some e10.1) (sk 86 (congrArg some e11.1) (aB _))) (by simp only[e10.2,e11.2,fS]<;>rfl) (eY (R:=(fun u_ p_=>(∃x_:Int,u_=jI x_∧0≤x_∧x_<2*(((1+(1+x4))+x8)+x11))∧p_=curE g a len cap)) A A (fun L w hX hm=>dW g a len cap z (2*(((1+(1+x4))+x8)+x11)) _ _ _ hm hb (by constructor<;>omega)))
 intro vf pf hmu hR
 refine fG [] [] A (bH (aI [0] A) ?_)
 exact aT (aK A)
 intro vf pf hmu hR
 refine fG [] [] A (bH (aI [16] A) ?_)
 exact aT (aK A)
 intro vf pf hmu hR
 have e12:(∃pm_,(pf 12)=[pm_]∧(fun u_ p_=>(∃x_:Int,u_=jI x_∧0≤x_∧x_<2*(((1+(1+x4))+x8)+x11))∧p_=curE g a len cap) (vf 12) pm_):=hR 12 (by decide)
 obtain⟨p39,pE12,R40⟩:=e12
 obtain⟨v38,vE12⟩:∃x,vf 12=x:=⟨_,rfl⟩
 rw[vE12] at R40
 obtain⟨⟨x40,rfl,x400,x401⟩,rfl⟩:=R40
 have e13:=hR 13 (by decide)
 have e14:=hR 14 (by decide)
 refine Or.inl ⟨A,?_⟩
 show RunM _ _ _ (pf 12) (([13,14]:List Nat).flatMap pf++_) (envOf _ vf [12,13,14]++_) _ _
 rw[pE12]
 exact cV (sk 88 (congrArg some e13.1) (sk 89 (congrArg some e14.1) (aB _))) (by simp only[e13.2,e14.2,fS]<;>rfl) (eY (R:=(fun u_ p_=>(∃x_:Int,u_=jI x_∧0≤x_∧x_<2*(((1+(1+x4))+x8)+x11))∧p_=curE g a len cap)) A A (fun L w hX hm=>dW g a len cap z (2*(((1+(1+x4))+x8)+x11)) _ _ _ hm hb (by constructor<;>omega)))
 intro vf pf hmu hR
 have e6:(∃pm_,(pf 6)=[pm_]∧(fun u_ p_=>(∃x_:Int,u_=jI x_∧0≤x_∧x_<2*(((1+(1+x4))+x8)+x11))∧p_=curE g a len cap) (vf 6) pm_):=hR 6 (by decide)
 obtain⟨p33,pE6,R34⟩:=e6
 obtain⟨v32,vE6⟩:∃x,vf 6=x:=⟨_,rfl⟩
 rw[vE6] at R34
 obtain⟨⟨x34,rfl,x340,x341⟩,rfl⟩:=R34
 have e9:(∃pm_,(pf 9)=[pm_]∧(fun u_ p_=>(∃x_:Int,u_=jI x_∧0≤x_∧x_<2*(((1+(1+x4))+x8)+x11))∧p_=curE g a len cap) (vf 9) pm_):=hR 9 (by decide)
 obtain⟨p36,pE9,R37⟩:=e9
 obtain⟨v35,vE9⟩:∃x,vf 9=x:=⟨_,rfl⟩
 rw[vE9] at R37
 obtain⟨⟨x37,rfl,x370,x371⟩,rfl⟩:=R37
 have e12:(∃pm_,(pf 12)=[pm_]∧(fun u_ p_=>(∃x_:Int,u_=jI x_∧0≤x_∧x_<2*(((1+(1+x4))+x8)+x11))∧p_=curE g a len cap) (vf 12) pm_):=hR 12 (by decide)
 obtain⟨p39,pE12,R40⟩:=e12
 obtain⟨v38,vE12⟩:∃x,vf 12=x:=⟨_,rfl⟩
 rw[vE12] at R40
 obtain⟨⟨x40,rfl,x400,x401⟩,rfl⟩:=R40
 have e15:(∃pm_,(pf 15)=[pm_]∧(fun u_ p_=>(∃x_:Int,u_=jI x_∧0≤x_∧x_<2*(((1+(1+x4))+x8)+x11))∧p_=curE g a len cap) (vf 15) pm_):=hR 15 (by decide)
 obtain⟨p42,pE15,R43⟩:=e15
 obtain⟨v41,vE15⟩:∃x,vf 15=x:=⟨_,rfl⟩
 rw[vE15] at R43
 obtain⟨⟨x43,rfl,x430,x431⟩,rfl⟩:=R43
 refine fG [15] [6,9,12,15] A (bU (sk 81 (congrArg some vE6) (sk 84 (congrArg some vE9) (sk 87 (congrArg some vE12) (sk 90 (congrArg some vE15) (aB _))))) (by simp only[pE15,vE15,fS]<;>rfl) ?_)
 exact cD (bB (z:=jI 0) (s:=1) (cs:=(mI [x34,x37,x40,x43])) A Tryz.underlying26 A (by decide) A (by kernel_rfl) A) (fun v_ p_ h=>by show IsRow 3 1 4 (mI [(intOf_o (vf 6)),(intOf_o (vf 9)),(intOf_o (vf 12)),(intOf_o (vf 15))]) v_ p_;rw[vE6,vE9,vE12,vE15];exact h)
 intro vf pf hmu hR
 have e3:(∃pm_,(pf 3)=[pm_]∧(fun u_ p_=>(∃x_:Int,u_=jI x_∧0≤x_∧x_<32)∧p_=curE g a len cap) (vf 3) pm_):=hR 3 (by decide)
 obtain⟨p30,pE3,R31⟩:=e3
 obtain⟨v29,vE3⟩:∃x,vf 3=x:=⟨_,rfl⟩
 rw[vE3] at R31
 obtain⟨⟨x31,rfl,x310,x311⟩,rfl⟩:=R31
 have e6:(∃pm_,(pf 6)=[pm_]∧(fun u_ p_=>(∃x_:Int,u_=jI x_∧0≤x_∧x_<2*(((1+(1+x4))+x8)+x11))∧p_=curE g a len cap) (vf 6) pm_):=hR 6 (by decide)
 obtain⟨p33,pE6,R34⟩:=e6
 obtain⟨v32,vE6⟩:∃x,vf 6=x:=⟨_,rfl⟩
 rw[vE6] at R34
 obtain⟨⟨x34,rfl,x340,x341⟩,rfl⟩:=R34
 have e9:(∃pm_,(pf 9)=[pm_]∧(fun u_ p_=>(∃x_:Int,u_=jI x_∧0≤x_∧x_<2*(((1+(1+x4))+x8)+x11))∧p_=curE g a len cap) (vf 9) pm_):=hR 9 (by decide)
 obtain⟨p36,pE9,R37⟩:=e9
 obtain⟨v35,vE9⟩:∃x,vf 9=x:=⟨_,rfl⟩
 rw[vE9] at R37
 obtain⟨⟨x37,rfl,x370,x371⟩,rfl⟩:=R37
 have e12:(∃pm_,(pf 12)=[pm_]∧(fun u_ p_=>(∃x_:Int,u_=jI x_∧0≤x_∧x_<2*(((1+(1+x4))+x8)+x11))∧p_=curE g a len cap) (vf 12) pm_):=hR 12 (by decide)
 obtain⟨p39,pE12,R40⟩:=e12
 obtain⟨v38,vE12⟩:∃x,vf 12=x:=⟨_,rfl⟩
 rw[vE12] at R40
 obtain⟨⟨x40,rfl,x400,x401⟩,rfl⟩:=R40
 have e15:(∃pm_,(pf 15)=[pm_]∧(fun u_ p_=>(∃x_:Int,u_=jI x_∧0≤x_∧x_<2*(((1+(1+x4))+x8)+x11))∧p_=curE g a len cap) (vf 15) pm_):=hR 15 (by decide)
 obtain⟨p42,pE15,R43⟩:=e15
 obtain⟨v41,vE15⟩:∃x,vf 15=x:=⟨_,rfl⟩
 rw[vE15] at R43
 obtain⟨⟨x43,rfl,x430,x431⟩,rfl⟩:=R43
 have e16:IsRow 3 1 4 (mI [(intOf_o (vf 6)),(intOf_o (vf 9)),(intOf_o (vf 12)),(intOf_o (vf 15))]) (vf 16) (pf 16):=hR 16 (by decide)
 rw[vE6,vE9,vE12,vE15] at e16
 obtain⟨g44,vE16,pE16⟩:=e16
 refine fG [15,16] [3,6,9,12,15,16] A (bU (sk 78 (congrArg some vE3) (sk 91 (congrArg some vE16) (aB _))) (by simp only[pE15,vE15,pE16,vE16,fS]<;>rfl) ?_)
 exact cD (aT (dQ (cs:=#[jI 1,jI x31,.slice (some ⟨g44,0,none⟩) 4 4]) A A A)) (fun _ _ h=>⟨h.1.trans (by show _=(.agg #[jI 1,jI (intOf_o (vf 3)),(vf 16)]:Value);first|(rw[vE3,vE16];done)|(rw[vE3,vE16];rfl)),h.2⟩)
 intro vf pf hmu hR
 have e3:(∃pm_,(pf 3)=[pm_]∧(fun u_ p_=>(∃x_:Int,u_=jI x_∧0≤x_∧x_<32)∧p_=curE g a len cap) (vf 3) pm_):=hR 3 (by decide)
 obtain⟨p30,pE3,R31⟩:=e3
 obtain⟨v29,vE3⟩:∃x,vf 3=x:=⟨_,rfl⟩
 rw[vE3] at R31
 obtain⟨⟨x31,rfl,x310,x311⟩,rfl⟩:=R31
 have e6:(∃pm_,(pf 6)=[pm_]∧(fun u_ p_=>(∃x_:Int,u_=jI x_∧0≤x_∧x_<2*(((1+(1+x4))+x8)+x11))∧p_=curE g a len cap) (vf 6) pm_):=hR 6 (by decide)
 obtain⟨p33,pE6,R34⟩:=e6
 obtain⟨v32,vE6⟩:∃x,vf 6=x:=⟨_,rfl⟩
 rw[vE6] at R34
 obtain⟨⟨x34,rfl,x340,x341⟩,rfl⟩:=R34
 have e9:(∃pm_,(pf 9)=[pm_]∧(fun u_ p_=>(∃x_:Int,u_=jI x_∧0≤x_∧x_<2*(((1+(1+x4))+x8)+x11))∧p_=curE g a len cap) (vf 9) pm_):=hR 9 (by decide)
 obtain⟨p36,pE9,R37⟩:=e9
 obtain⟨v35,vE9⟩:∃x,vf 9=x:=⟨_,rfl⟩
 rw[vE9] at R37
 obtain⟨⟨x37,rfl,x370,x371⟩,rfl⟩:=R37
 have e12:(∃pm_,(pf 12)=[pm_]∧(fun u_ p_=>(∃x_:Int,u_=jI x_∧0≤x_∧x_<2*(((1+(1+x4))+x8)+x11))∧p_=curE g a len cap) (vf 12) pm_):=hR 12 (by decide)
 obtain⟨p39,pE12,R40⟩:=e12
 obtain⟨v38,vE12⟩:∃x,vf 12=x:=⟨_,rfl⟩
 rw[vE12] at R40
 obtain⟨⟨x40,rfl,x400,x401⟩,rfl⟩:=R40
 have e15:(∃pm_,(pf 15)=[pm_]∧(fun u_ p_=>(∃x_:Int,u_=jI x_∧0≤x_∧x_<2*(((1+(1+x4))+x8)+x11))∧p_=curE g a len cap) (vf 15) pm_):=hR 15 (by decide)
 obtain⟨p42,pE15,R43⟩:=e15
 obtain⟨v41,vE15⟩:∃x,vf 15=x:=⟨_,rfl⟩
 rw[vE15] at R43
 obtain⟨⟨x43,rfl,x430,x431⟩,rfl⟩:=R43
 have e16:IsRow 3 1 4 (mI [(intOf_o (vf 6)),(intOf_o (vf 9)),(intOf_o (vf 12)),(intOf_o (vf 15))]) (vf 16) (pf 16):=hR 16 (by decide)
 rw[vE6,vE9,vE12,vE15] at e16
 obtain⟨g44,vE16,pE16⟩:=e16
 have e17:(vf 17)=.agg #[jI 1,jI (intOf_o (vf 3)),(vf 16)]∧(pf 17)=[]:=hR 17 (by decide)
 rw[vE3,vE16] at e17
 refine fG [15,16,17] [3,6,9,12,15,16,17] A (bU (sk 92 (congrArg some e17.1) (aB _)) (by simp only[pE15,vE15,pE16,vE16,e17.2,fS]<;>rfl) ?_)
 exact cD (bB (z:=.agg #[jI 0,jI 0,.slice none 0 0]) (s:=3) (cs:=[jI 1,jI x31,.slice (some ⟨g44,0,none⟩) 4 4]) A Tryz.underlying24 A (by decide) A (by kernel_rfl) A) (fun v_ p_ h=>by show IsRow 46 3 1 ([jI 1,jI (intOf_o (vf 3)),(vf 16)]) v_ p_;rw[vE3,vE16];exact h)
 intro vf pf hmu hR
 have e1:=hR 1 (by decide)
 have e3:(∃pm_,(pf 3)=[pm_]∧(fun u_ p_=>(∃x_:Int,u_=jI x_∧0≤x_∧x_<32)∧p_=curE g a len cap) (vf 3) pm_):=hR 3 (by decide)
 obtain⟨p30,pE3,R31⟩:=e3
 obtain⟨v29,vE3⟩:∃x,vf 3=x:=⟨_,rfl⟩
 rw[vE3] at R31
 obtain⟨⟨x31,rfl,x310,x311⟩,rfl⟩:=R31
 have e6:(∃pm_,(pf 6)=[pm_]∧(fun u_ p_=>(∃x_:Int,u_=jI x_∧0≤x_∧x_<2*(((1+(1+x4))+x8)+x11))∧p_=curE g a len cap) (vf 6) pm_):=hR 6 (by decide)
 obtain⟨p33,pE6,R34⟩:=e6
 obtain⟨v32,vE6⟩:∃x,vf 6=x:=⟨_,rfl⟩
 rw[vE6] at R34
 obtain⟨⟨x34,rfl,x340,x341⟩,rfl⟩:=R34
 have e9:(∃pm_,(pf 9)=[pm_]∧(fun u_ p_=>(∃x_:Int,u_=jI x_∧0≤x_∧x_<2*(((1+(1+x4))+x8)+x11))∧p_=curE g a len cap) (vf 9) pm_):=hR 9 (by decide)
 obtain⟨p36,pE9,R37⟩:=e9
 obtain⟨v35,vE9⟩:∃x,vf 9=x:=⟨_,rfl⟩
 rw[vE9] at R37
 obtain⟨⟨x37,rfl,x370,x371⟩,rfl⟩:=R37
 have e12:(∃pm_,(pf 12)=[pm_]∧(fun u_ p_=>(∃x_:Int,u_=jI x_∧0≤x_∧x_<2*(((1+(1+x4))+x8)+x11))∧p_=curE g a len cap) (vf 12) pm_):=hR 12 (by decide)
 obtain⟨p39,pE12,R40⟩:=e12
 obtain⟨v38,vE12⟩:∃x,vf 12=x:=⟨_,rfl⟩
 rw[vE12] at R40
 obtain⟨⟨x40,rfl,x400,x401⟩,rfl⟩:=R40
 have e15:(∃pm_,(pf 15)=[pm_]∧(fun u_ p_=>(∃x_:Int,u_=jI x_∧0≤x_∧x_<2*(((1+(1+x4))+x8)+x11))∧p_=curE g a len cap) (vf 15) pm_):=hR 15 (by decide)
 obtain⟨p42,pE15,R43⟩:=e15
 obtain⟨v41,vE15⟩:∃x,vf 15=x:=⟨_,rfl⟩
 rw[vE15] at R43
 obtain⟨⟨x43,rfl,x430,x431⟩,rfl⟩:=R43
 have e16:IsRow 3 1 4 (mI [(intOf_o (vf 6)),(intOf_o (vf 9)),(intOf_o (vf 12)),(intOf_o (vf 15))]) (vf 16) (pf 16):=hR 16 (by decide)
 rw[vE6,vE9,vE12,vE15] at e16
 obtain⟨g44,vE16,pE16⟩:=e16
 have e18:IsRow 46 3 1 ([jI 1,jI (intOf_o (vf 3)),(vf 16)]) (vf 18) (pf 18):=hR 18 (by decide)
 rw[vE3,vE16] at e18
 obtain⟨g45,vE18,pE18⟩:=e18
 have q0:=hR 0 (by decide)
 have q1:=hR 1 (by decide)
 have q2:=hR 2 (by decide)
 have q4:=hR 4 (by decide)
 have q5:=hR 5 (by decide)
 have q7:=hR 7 (by decide)
 have q8:=hR 8 (by decide)
 have q10:=hR 10 (by decide)
 have q11:=hR 11 (by decide)
 have q13:=hR 13 (by decide)
 have q14:=hR 14 (by decide)
 have q17:=hR 17 (by decide)
 refine cE (bO [74,70,39,17,16,12,11,10,9,8,3,2,1,0] _ (sk 76 (congrArg some e1.1) (sk 93 (congrArg some vE18) (aB _))) A) (by simp only[pE15,vE15,pE16,vE16,pE18,vE18,q0.2,q1.2,q2.2,q4.2,q5.2,q7.2,q8.2,q10.2,q11.2,q13.2,q14.2,q17.2,fS]<;>rfl) ?_
 simp only[List.drop_succ_cons,List.drop_zero]
 refine cW (i:=4) (z:=.agg #[jI 0,jI 0,.slice none 0 0]) (bytes:=40) A A A A Tryz.underlying24 (by kernel_rfl) A A A A (aG 2 A) (by simp[Value.oneCell']) (by first|omega|(simp only[List.length_append,List.length_cons,List.length_nil];omega)) (cH ss [(Sq.mk 1 x31 (.slice (some ⟨g44,0,none⟩) 4 4) ([x34,x37,x40,x43]))]) (dY sqC ss (Sq.mk 1 x31 (.slice (some ⟨g44,0,none⟩) 4 4) ([x34,x37,x40,x43])) _ A) (fun _=>A) ?_
 intro v46
 refine aP A (cQ 1 A A A) (dZ (i:=4) A (fun ho47=>?_))
 refine fI (i:=7) (cs':=#[jI (1+x4),v46,u,.slice none 0 0]) A A A A A A ho47 A A A A (dB (cK (bZ 1 A (aP A (dM A A A) (dJ 1 A ?_)))))
 refine aZ 9 [8,7,6,5,4,2,0,1,3] A A (by decide) ?_
 refine cZ (bigE ((ss++[(Sq.mk 1 x31 (.slice (some ⟨g44,0,none⟩) 4 4) ([x34,x37,x40,x43]))]).map sqPart)::curE g a len cap::rowE 46 3 (.slice (some ⟨g45,0,none⟩) 1 1) 1 ([jI 1,jI x31,.slice (some ⟨g44,0,none⟩) 4 4])::rowE 46 3 v46 ((ss++[(Sq.mk 1 x31 (.slice (some ⟨g44,0,none⟩) 4 4) ([x34,x37,x40,x43]))]).length) ((ss++[(Sq.mk 1 x31 (.slice (some ⟨g44,0,none⟩) 4 4) ([x34,x37,x40,x43]))]).flatMap sqC)::rS9 67 2 u gs anC::rowE 3 1 (.slice none 0 0) 0 ([])::boxE b5 #[jI (1+x4),v46,u,.slice none 0 0] 28::eB9 b1::l) (fun w hm=>by rw[List.map_append];exact nD w hm) ?_
 refine aZ 8 [1,7,6,5,4,3,0] A A (by decide) ?_
 exact cI (i+1) v46 (ss++[(Sq.mk 1 x31 (.slice (some ⟨g44,0,none⟩) 4 4) ([x34,x37,x40,x43]))]) ⟨by omega,by simp;omega,zM hso ⟨.inr ⟨A,by dsimp only;omega,A⟩⟩ (fun x hx=>by simp only[List.mem_cons,List.not_mem_nil,or_false] at hx;unfold LtOk;omega)⟩ (by omega) (cT A) (.refl _)
 refine bR (aS A ?_)
 refine eE 7 [5,4,3,2,1,0,6] A A (by decide) ?_
 refine gG (l:=(bigE (ss.map sqPart)::rS9 46 3 uq ss sqC::rS9 67 2 u gs anC::rowE 3 1 (.slice none 0 0) 0 ([])::boxE b5 #[jI (1+x4),uq,u,.slice none 0 0] 28::eB9 b1::l)) A 14 [0,1,2,3,4,5,6,7,8,9,10,11,12,13] (List.take 14 _) (List.drop 14 _) [[],[0],[],[2],[],[4],[],[],[7],[3,6,8],[5,9],[9,10],[3,9,11],[3,9,11,12]] [96,97,98,99,100,101,102,103,104,105,106,107,108,109] (fun i_ vs_ v_ p_=>match i_ with|0=>v_=.pointer (some ⟨b5,0+1,none⟩)∧p_=[]|1=>v_=uq∧p_=[]|2=>v_=pI g∧p_=[]|3=>(∃pm_,p_=[pm_]∧(fun u_ p_=>(∃x_:Int,u_=jI x_∧0≤x_∧x_<2)∧p_=curE g a len cap) v_ pm_)|4=>v_=jI (2*(((1+(1+x4))+x8)+x11))∧p_=[]|5=>v_=jI ((2*(((1+(1+x4))+x8)+x11))-1)∧p_=[]|6=>v_=pI g∧p_=[]|7=>v_=jI (2*(((1+(1+x4))+x8)+x11))∧p_=[]|8=>v_=jI (min (2*(((1+(1+x4))+x8)+x11)) 12)∧p_=[]|9=>(∃pm_,p_=[pm_]∧(fun u_ p_=>(∃x_:Int,u_=jI x_∧0≤x_∧x_<min (2*(((1+(1+x4))+x8)+x11)) 12)∧p_=curE g a len cap) v_ pm_)|10=>v_=jI (((2*(((1+(1+x4))+x8)+x11))-1)-(intOf_o (gV9 vs_ 1)))∧p_=[]|11=>IsRow 3 1 1 (mI [((2*(((1+(1+x4))+x8)+x11))-1)-(intOf_o (gV9 vs_ 0))]) v_ p_|12=>v_=.agg #[jI 0,jI (intOf_o (gV9 vs_ 0)),(gV9 vs_ 2)]∧p_=[]|13=>IsRow 46 3 1 ([jI 0,jI (intOf_o (gV9 vs_ 0)),(gV9 vs_ 2)]) v_ p_|_=>True) [[],[0],[],[2],[],[4],[],[],[7],[6,8],[5,9],[9,10],[9,11],[9,11,12]] [none,none,none,some 17,none,none,none,none,none,some 3,none,none,none,none] [curE g a len cap] [0,1,2,4,5,6,7,8,9,10,11,12,13] 17 (List.take_append_drop 14 _).symm (by kernel_rfl) (by kernel_rfl) (by kernel_rfl) A A ?_ ?_
 refine⟨?_,?_,?_,?_,?_,?_,?_,?_,?_,?_,?_,?_,?_,?_,trivial⟩
 intro vf pf hmu hR
 refine fG [] [] A (bH (aI [9] A) ?_)
 exact aT (cQ 1 A A A)
 intro vf pf hmu hR
 have e0:=hR 0 (by decide)
 refine fG [0] [0] A (aW (sk 96 (congrArg some e0.1) (aB _)) (List.sublist_append_right _ _) ?_)
 exact aT (aN A A A (aH 4 A A))
 intro vf pf hmu hR
 refine fG [] [] A (bH (aI [0] A) ?_)
 exact aT (aK A)
 intro vf pf hmu hR
 have e2:=hR 2 (by decide)
 refine Or.inl ⟨A,?_⟩
 show RunM _ _ _ (pf 17) (([2]:List Nat).flatMap pf++_) (envOf _ vf [2]++_) _ _
 rw[hmu]
 exact cV (sk 98 (congrArg some e2.1) (aB _)) (by simp only[e2.2,fS]<;>rfl) (eY (R:=(fun u_ p_=>(∃x_:Int,u_=jI x_∧0≤x_∧x_<2)∧p_=curE g a len cap)) A A (fun L w hX hm=>dW g a len cap z 2 _ _ _ hm hb (by constructor<;>omega)))
 intro vf pf hmu hR
 refine fG [] [] A (bH (aI [16] A) ?_)
 exact aT (aK A)
 intro vf pf hmu hR
 have e4:=hR 4 (by decide)
 refine fG [4] [4] A (bH (sk 100 (congrArg some e4.1) (aB _)) ?_)
 exact aT (iM A A A)
 intro vf pf hmu hR
 refine fG [] [] A (bH (aI [0] A) ?_)
 exact aT (aK A)
 intro vf pf hmu hR
 refine fG [] [] A (bH (aI [16] A) ?_)
 exact aT (aK A)
 intro vf pf hmu hR
 have e7:=hR 7 (by decide)
 refine fG [7] [7] A (bH (sk 103 (congrArg some e7.1) (aB _)) ?_)
 exact aT (oH A A A)
 intro vf pf hmu hR
 have e3:(∃pm_,(pf 3)=[pm_]∧(fun u_ p_=>(∃x_:Int,u_=jI x_∧0≤x_∧x_<2)∧p_=curE g a len cap) (vf 3) pm_):=hR 3 (by decide)
 obtain⟨p49,pE3,R50⟩:=e3
 obtain⟨v48,vE3⟩:∃x,vf 3=x:=⟨_,rfl⟩
 rw[vE3] at R50
 obtain⟨⟨x50,rfl,x500,x501⟩,rfl⟩:=R50
 have e6:=hR 6 (by decide)
 have e8:=hR 8 (by decide)
 refine Or.inl ⟨A,?_⟩
 show RunM _ _ _ (pf 3) (([6,8]:List Nat).flatMap pf++_) (envOf _ vf [3,6,8]++_) _ _
 rw[pE3]
 exact cV (sk 102 (congrArg some e6.1) (sk 104 (congrArg some e8.1) (aB _))) (by simp only[e6.2,e8.2,fS]<;>rfl) (eY (R:=(fun u_ p_=>(∃x_:Int,u_=jI x_∧0≤x_∧x_<min (2*(((1+(1+x4))+x8)+x11)) 12)∧p_=curE g a len cap)) A A (fun L w hX hm=>dW g a len cap z (min (2*(((1+(1+x4))+x8)+x11)) 12) _ _ _ hm hb (by constructor<;>omega)))
 intro vf pf hmu hR
 have e5:=hR 5 (by decide)
 have e9:(∃pm_,(pf 9)=[pm_]∧(fun u_ p_=>(∃x_:Int,u_=jI x_∧0≤x_∧x_<min (2*(((1+(1+x4))+x8)+x11)) 12)∧p_=curE g a len cap) (vf 9) pm_):=hR 9 (by decide)
 obtain⟨p52,pE9,R53⟩:=e9
 obtain⟨v51,vE9⟩:∃x,vf 9=x:=⟨_,rfl⟩
 rw[vE9] at R53
 obtain⟨⟨x53,rfl,x530,x531⟩,rfl⟩:=R53
 refine fG [5,9] [5,9] A (bU (sk 101 (congrArg some e5.1) (sk 105 (congrArg some vE9) (aB _))) (by simp only[pE9,vE9,e5.2,fS]<;>rfl) ?_)
 exact cD (aT (iM A A A)) (fun _ _ h=>⟨h.1.trans (by show _=(jI (((2*(((1+(1+x4))+x8)+x11))-1)-(intOf_o (vf 9))):Value);first|(rw[vE9];done)|(rw[vE9];rfl)),h.2⟩)
 intro vf pf hmu hR
 have e9:(∃pm_,(pf 9)=[pm_]∧(fun u_ p_=>(∃x_:Int,u_=jI x_∧0≤x_∧x_<min (2*(((1+(1+x4))+x8)+x11)) 12)∧p_=curE g a len cap) (vf 9) pm_):=hR 9 (by decide)
 obtain⟨p52,pE9,R53⟩:=e9
 obtain⟨v51,vE9⟩:∃x,vf 9=x:=⟨_,rfl⟩
 rw[vE9] at R53
 obtain⟨⟨x53,rfl,x530,x531⟩,rfl⟩:=R53
 have e10:(vf 10)=jI (((2*(((1+(1+x4))+x8)+x11))-1)-(intOf_o (vf 9)))∧(pf 10)=[]:=hR 10 (by decide)
 rw[vE9] at e10
 refine fG [9,10] [9,10] A (bU (sk 106 (congrArg some e10.1) (aB _)) (by simp only[pE9,vE9,e10.2,fS]<;>rfl) ?_)
 exact cD (bB (z:=jI 0) (s:=1) (cs:=(mI [((2*(((1+(1+x4))+x8)+x11))-1)-x53])) A Tryz.underlying26 A (by decide) A (by kernel_rfl) A) (fun v_ p_ h=>by show IsRow 3 1 1 (mI [((2*(((1+(1+x4))+x8)+x11))-1)-(intOf_o (vf 9))]) v_ p_;rw[vE9];exact h)
 intro vf pf hmu hR
 have e3:(∃pm_,(pf 3)=[pm_]∧(fun u_ p_=>(∃x_:Int,u_=jI x_∧0≤x_∧x_<2)∧p_=curE g a len cap) (vf 3) pm_):=hR 3 (by decide)
 obtain⟨p49,pE3,R50⟩:=e3
 obtain⟨v48,vE3⟩:∃x,vf 3=x:=⟨_,rfl⟩
 rw[vE3] at R50
 obtain⟨⟨x50,rfl,x500,x501⟩,rfl⟩:=R50
 have e9:(∃pm_,(pf 9)=[pm_]∧(fun u_ p_=>(∃x_:Int,u_=jI x_∧0≤x_∧x_<min (2*(((1+(1+x4))+x8)+x11)) 12)∧p_=curE g a len cap) (vf 9) pm_):=hR 9 (by decide)
 obtain⟨p52,pE9,R53⟩:=e9
 obtain⟨v51,vE9⟩:∃x,vf 9=x:=⟨_,rfl⟩
 rw[vE9] at R53
 obtain⟨⟨x53,rfl,x530,x531⟩,rfl⟩:=R53
 have e11:IsRow 3 1 1 (mI [((2*(((1+(1+x4))+x8)+x11))-1)-(intOf_o (vf 9))]) (vf 11) (pf 11):=hR 11 (by decide)
 rw[vE9] at e11
 obtain⟨g54,vE11,pE11⟩:=e11
 refine fG [9,11] [3,9,11] A (bU (sk 99 (congrArg some vE3) (sk 107 (congrArg some vE11) (aB _))) (by simp only[pE9,vE9,pE11,vE11,fS]<;>rfl) ?_)
 exact cD (aT (dQ (cs:=#[jI 0,jI x50,.slice (some ⟨g54,0,none⟩) 1 1]) A A A)) (fun _ _ h=>⟨h.1.trans (by show _=(.agg #[jI 0,jI (intOf_o (vf 3)),(vf 11)]:Value);first|(rw[vE3,vE11];done)|(rw[vE3,vE11];rfl)),h.2⟩)
 intro vf pf hmu hR
 have e3:(∃pm_,(pf 3)=[pm_]∧(fun u_ p_=>(∃x_:Int,u_=jI x_∧0≤x_∧x_<2)∧p_=curE g a len cap) (vf 3) pm_):=hR 3 (by decide)
 obtain⟨p49,pE3,R50⟩:=e3
 obtain⟨v48,vE3⟩:∃x,vf 3=x:=⟨_,rfl⟩
 rw[vE3] at R50
 obtain⟨⟨x50,rfl,x500,x501⟩,rfl⟩:=R50
 have e9:(∃pm_,(pf 9)=[pm_]∧(fun u_ p_=>(∃x_:Int,u_=jI x_∧0≤x_∧x_<min (2*(((1+(1+x4))+x8)+x11)) 12)∧p_=curE g a len cap) (vf 9) pm_):=hR 9 (by decide)
 obtain⟨p52,pE9,R53⟩:=e9
 obtain⟨v51,vE9⟩:∃x,vf 9=x:=⟨_,rfl⟩
 rw[vE9] at R53
 obtain⟨⟨x53,rfl,x530,x531⟩,rfl⟩:=R53
 have e11:IsRow 3 1 1 (mI [((2*(((1+(1+x4))+x8)+x11))-1)-(intOf_o (vf 9))]) (vf 11) (pf 11):=hR 11 (by decide)
 rw[vE9] at e11
 obtain⟨g54,vE11,pE11⟩:=e11
 have e12:(vf 12)=.agg #[jI 0,jI (intOf_o (vf 3)),(vf 11)]∧(pf 12)=[]:=hR 12 (by decide)
 rw[vE3,vE11] at e12
 refine fG [9,11,12] [3,9,11,12] A (bU (sk 108 (congrArg some e12.1) (aB _)) (by simp only[pE9,vE9,pE11,vE11,e12.2,fS]<;>rfl) ?_)
 exact cD (bB (z:=.agg #[jI 0,jI 0,.slice none 0 0]) (s:=3) (cs:=[jI 0,jI x50,.slice (some ⟨g54,0,none⟩) 1 1]) A Tryz.underlying24 A (by decide) A (by kernel_rfl) A) (fun v_ p_ h=>by show IsRow 46 3 1 ([jI 0,jI (intOf_o (vf 3)),(vf 11)]) v_ p_;rw[vE3,vE11];exact h)
 intro vf pf hmu hR
 have e1:=hR 1 (by decide)
 have e3:(∃pm_,(pf 3)=[pm_]∧(fun u_ p_=>(∃x_:Int,u_=jI x_∧0≤x_∧x_<2)∧p_=curE g a len cap) (vf 3) pm_):=hR 3 (by decide)
 obtain⟨p49,pE3,R50⟩:=e3
 obtain⟨v48,vE3⟩:∃x,vf 3=x:=⟨_,rfl⟩
 rw[vE3] at R50
 obtain⟨⟨x50,rfl,x500,x501⟩,rfl⟩:=R50
 have e9:(∃pm_,(pf 9)=[pm_]∧(fun u_ p_=>(∃x_:Int,u_=jI x_∧0≤x_∧x_<min (2*(((1+(1+x4))+x8)+x11)) 12)∧p_=curE g a len cap) (vf 9) pm_):=hR 9 (by decide)
 obtain⟨p52,pE9,R53⟩:=e9
 obtain⟨v51,vE9⟩:∃x,vf 9=x:=⟨_,rfl⟩
 rw[vE9] at R53
 obtain⟨⟨x53,rfl,x530,x531⟩,rfl⟩:=R53
 have e11:IsRow 3 1 1 (mI [((2*(((1+(1+x4))+x8)+x11))-1)-(intOf_o (vf 9))]) (vf 11) (pf 11):=hR 11 (by decide)
 rw[vE9] at e11
 obtain⟨g54,vE11,pE11⟩:=e11
 have e13:IsRow 46 3 1 ([jI 0,jI (intOf_o (vf 3)),(vf 11)]) (vf 13) (pf 13):=hR 13 (by decide)
 rw[vE3,vE11] at e13
 obtain⟨g55,vE13,pE13⟩:=e13
 have q0:=hR 0 (by decide)
 have q1:=hR 1 (by decide)
 have q2:=hR 2 (by decide)
 have q4:=hR 4 (by decide)
 have q5:=hR 5 (by decide)
 have q6:=hR 6 (by decide)
 have q7:=hR 7 (by decide)
 have q8:=hR 8 (by decide)
 have q10:=hR 10 (by decide)
 have q12:=hR 12 (by decide)
 refine cE (bO [74,70,39,17,16,12,11,10,9,8,3,2,1,0] _ (sk 97 (congrArg some e1.1) (sk 109 (congrArg some vE13) (aB _))) A) (by simp only[pE9,vE9,pE11,vE11,pE13,vE13,q0.2,q1.2,q2.2,q4.2,q5.2,q6.2,q7.2,q8.2,q10.2,q12.2,fS]<;>rfl) ?_
 simp only[List.drop_succ_cons,List.drop_zero]
 refine cW (i:=4) (z:=.agg #[jI 0,jI 0,.slice none 0 0]) (bytes:=40) A A A A Tryz.underlying24 (by kernel_rfl) A A A A (aG 2 A) (by simp[Value.oneCell']) (by first|omega|(simp only[List.length_append,List.length_cons,List.length_nil];omega)) (cH ss [(Sq.mk 0 x50 (.slice (some ⟨g54,0,none⟩) 1 1) ([((2*(((1+(1+x4))+x8)+x11))-1)-x53]))]) (dY sqC ss (Sq.mk 0 x50 (.slice (some ⟨g54,0,none⟩) 1 1) ([((2*(((1+(1+x4))+x8)+x11))-1)-x53])) _ A) (fun _=>A) ?_
 intro v56
 refine aP A (cQ 1 A A A) (dZ (i:=4) A (fun ho57=>?_))
 refine fI (i:=7) (cs':=#[jI (1+x4),v56,u,.slice none 0 0]) A A A A A A ho57 A A A A (dB (cK (bZ 1 A (aP A (dM A A A) (dJ 1 A ?_)))))
 refine aZ 9 [8,7,6,5,4,2,0,1,3] A A (by decide) ?_
 refine cZ (bigE ((ss++[(Sq.mk 0 x50 (.slice (some ⟨g54,0,none⟩) 1 1) ([((2*(((1+(1+x4))+x8)+x11))-1)-x53]))]).map sqPart)::curE g a len cap::rowE 46 3 (.slice (some ⟨g55,0,none⟩) 1 1) 1 ([jI 0,jI x50,.slice (some ⟨g54,0,none⟩) 1 1])::rowE 46 3 v56 ((ss++[(Sq.mk 0 x50 (.slice (some ⟨g54,0,none⟩) 1 1) ([((2*(((1+(1+x4))+x8)+x11))-1)-x53]))]).length) ((ss++[(Sq.mk 0 x50 (.slice (some ⟨g54,0,none⟩) 1 1) ([((2*(((1+(1+x4))+x8)+x11))-1)-x53]))]).flatMap sqC)::rS9 67 2 u gs anC::rowE 3 1 (.slice none 0 0) 0 ([])::boxE b5 #[jI (1+x4),v56,u,.slice none 0 0] 28::eB9 b1::l) (fun w hm=>by rw[List.map_append];exact nD w hm) ?_
 refine aZ 8 [1,7,6,5,4,3,0] A A (by decide) ?_
 exact cI (i+1) v56 (ss++[(Sq.mk 0 x50 (.slice (some ⟨g54,0,none⟩) 1 1) ([((2*(((1+(1+x4))+x8)+x11))-1)-x53]))]) ⟨by omega,by simp;omega,zM hso ⟨.inl ⟨A,by dsimp only;omega,A⟩⟩ (fun x hx=>by simp only[List.mem_cons,List.not_mem_nil,or_false] at hx;unfold LtOk;omega)⟩ (by omega) (cT A) (.refl _)
 refine bR (aS A ?_)
 refine bM (dI ?_)
 refine aO (bF (aC (aC (bZ 1 A ?_))))
 refine eH (R:=(fun u_ p_=>(∃x_:Int,u_=jI x_∧0≤x_∧x_<4)∧p_=curE g a len cap)) 6 A A A A A (fun l' w hm=>dW g a len cap z 4 _ _ _ hm hb (by constructor<;>omega)) ?_
 intro v58 p59 R60
 obtain⟨⟨x60,rfl,x600,x601⟩,rfl⟩:=R60
 refine eC (l':=(bigE (ss.map sqPart)::rS9 46 3 uq ss sqC::rS9 67 2 u gs anC::rowE 3 1 (.slice none 0 0) 0 ([])::boxE b5 #[jI (1+x4),uq,u,.slice none 0 0] 28::eB9 b1::curE g a len cap::l)) A ?_
 refine aU 1 A (bE ?_)
 refine iC (α:=Int) (β:=Value) (γ:=List Int) [0,1,2,3,8,9,10,11,12,16,39,70] A (fun k uo os=>(bigE (ss.map sqPart)::rS9 46 3 uq ss sqC::rS9 67 2 u gs anC::rI9 3 uo os::boxE b5 #[jI (1+x4),uq,u,uo] 28::eB9 b1::curE g a len cap::l)) (fun k uo os=>[(18,jI k)]) (fun k uo os=>(-1≤k∧k≤3)∧((os.length:Int)+k≤3∧(0≤k∨1≤os.length))∧OsOk (((1+(1+x4))+x8)+x11) os) (fun k uo os=>(k+1).toNat) _ _ [] ⟨by omega,⟨by simp;omega,.inl (by omega)⟩,fun x hx=>absurd hx (by simp)⟩ (cT A) (.refl _) ?_
 intro k uo os hi61
 obtain⟨hk0,hol,hoo⟩:=hi61
 refine aC (aC (bZ 1 A ?_))
 refine gO A A A A A A (fun h62=>?_) (fun h62=>?_)
 refine bR (aR A (bY (fM ?_)))
 refine eE 7 [5,4,3,2,1,0,6] A A (by decide) ?_
 refine gG (l:=(bigE (ss.map sqPart)::rS9 46 3 uq ss sqC::rS9 67 2 u gs anC::rI9 3 uo os::boxE b5 #[jI (1+x4),uq,u,uo] 28::eB9 b1::l)) A 10 [0,1,2,3,4,5,6,7,8,9] (List.take 10 _) (List.drop 10 _) [[],[0],[],[2],[],[],[5],[4,6],[3,7],[7,8]] [118,119,120,121,122,123,124,125,126,127] (fun i_ vs_ v_ p_=>match i_ with|0=>v_=.pointer (some ⟨b5,0+3,none⟩)∧p_=[]|1=>v_=uo∧p_=[]|2=>v_=jI (2*(((1+(1+x4))+x8)+x11))∧p_=[]|3=>v_=jI ((2*(((1+(1+x4))+x8)+x11))-1)∧p_=[]|4=>v_=pI g∧p_=[]|5=>v_=jI (2*(((1+(1+x4))+x8)+x11))∧p_=[]|6=>v_=jI (min (2*(((1+(1+x4))+x8)+x11)) 12)∧p_=[]|7=>(∃pm_,p_=[pm_]∧(fun u_ p_=>(∃x_:Int,u_=jI x_∧0≤x_∧x_<min (2*(((1+(1+x4))+x8)+x11)) 12)∧p_=curE g a len cap) v_ pm_)|8=>v_=jI (((2*(((1+(1+x4))+x8)+x11))-1)-(intOf_o (gV9 vs_ 1)))∧p_=[]|9=>IsRow 3 1 1 (mI [((2*(((1+(1+x4))+x8)+x11))-1)-(intOf_o (gV9 vs_ 0))]) v_ p_|_=>True) [[],[0],[],[2],[],[],[5],[4,6],[3,7],[7,8]] [none,none,none,none,none,none,none,some 13,none,none] [curE g a len cap] [0,1,2,3,4,5,6,7,8,9] 13 (List.take_append_drop 10 _).symm (by kernel_rfl) (by kernel_rfl) (by kernel_rfl) A A ?_ ?_
 refine⟨?_,?_,?_,?_,?_,?_,?_,?_,?_,?_,trivial⟩
 intro vf pf hmu hR
 refine fG [] [] A (bH (aI [9] A) ?_)
 exact aT (cQ 3 A A A)
 intro vf pf hmu hR
 have e0:=hR 0 (by decide)
 refine fG [0] [0] A (aW (sk 118 (congrArg some e0.1) (aB _)) (List.sublist_append_right _ _) ?_)
 exact aT (aN A A A (aH 4 A A))
 intro vf pf hmu hR
 refine fG [] [] A (bH (aI [16] A) ?_)
 exact aT (aK A)
 intro vf pf hmu hR
 have e2:=hR 2 (by decide)
 refine fG [2] [2] A (bH (sk 120 (congrArg some e2.1) (aB _)) ?_)
 exact aT (iM A A A)
 intro vf pf hmu hR
 refine fG [] [] A (bH (aI [0] A) ?_)
 exact aT (aK A)
 intro vf pf hmu hR
 refine fG [] [] A (bH (aI [16] A) ?_)
 exact aT (aK A)
 intro vf pf hmu hR
 have e5:=hR 5 (by decide)
 refine fG [5] [5] A (bH (sk 123 (congrArg some e5.1) (aB _)) ?_)
 exact aT (oH A A A)
 intro vf pf hmu hR
 have e4:=hR 4 (by decide)
 have e6:=hR 6 (by decide)
 refine Or.inl ⟨A,?_⟩
 show RunM _ _ _ (pf 13) (([4,6]:List Nat).flatMap pf++_) (envOf _ vf [4,6]++_) _ _
 rw[hmu]
 exact cV (sk 122 (congrArg some e4.1) (sk 124 (congrArg some e6.1) (aB _))) (by simp only[e4.2,e6.2,fS]<;>rfl) (eY (R:=(fun u_ p_=>(∃x_:Int,u_=jI x_∧0≤x_∧x_<min (2*(((1+(1+x4))+x8)+x11)) 12)∧p_=curE g a len cap)) A A (fun L w hX hm=>dW g a len cap z (min (2*(((1+(1+x4))+x8)+x11)) 12) _ _ _ hm hb (by constructor<;>omega)))
 intro vf pf hmu hR
 have e3:=hR 3 (by decide)
 have e7:(∃pm_,(pf 7)=[pm_]∧(fun u_ p_=>(∃x_:Int,u_=jI x_∧0≤x_∧x_<min (2*(((1+(1+x4))+x8)+x11)) 12)∧p_=curE g a len cap) (vf 7) pm_):=hR 7 (by decide)
 obtain⟨p64,pE7,R65⟩:=e7
 obtain⟨v63,vE7⟩:∃x,vf 7=x:=⟨_,rfl⟩
 rw[vE7] at R65
 obtain⟨⟨x65,rfl,x650,x651⟩,rfl⟩:=R65
 refine fG [3,7] [3,7] A (bU (sk 121 (congrArg some e3.1) (sk 125 (congrArg some vE7) (aB _))) (by simp only[pE7,vE7,e3.2,fS]<;>rfl) ?_)
 exact cD (aT (iM A A A)) (fun _ _ h=>⟨h.1.trans (by show _=(jI (((2*(((1+(1+x4))+x8)+x11))-1)-(intOf_o (vf 7))):Value);first|(rw[vE7];done)|(rw[vE7];rfl)),h.2⟩)
 intro vf pf hmu hR
 have e7:(∃pm_,(pf 7)=[pm_]∧(fun u_ p_=>(∃x_:Int,u_=jI x_∧0≤x_∧x_<min (2*(((1+(1+x4))+x8)+x11)) 12)∧p_=curE g a len cap) (vf 7) pm_):=hR 7 (by decide)
 obtain⟨p64,pE7,R65⟩:=e7
 obtain⟨v63,vE7⟩:∃x,vf 7=x:=⟨_,rfl⟩
 rw[vE7] at R65
 obtain⟨⟨x65,rfl,x650,x651⟩,rfl⟩:=R65
 have e8:(vf 8)=jI (((2*(((1+(1+x4))+x8)+x11))-1)-(intOf_o (vf 7)))∧(pf 8)=[]:=hR 8 (by decide)
 rw[vE7] at e8
 refine fG [7,8] [7,8] A (bU (sk 126 (congrArg some e8.1) (aB _)) (by simp only[pE7,vE7,e8.2,fS]<;>rfl) ?_)
 exact cD (bB (z:=jI 0) (s:=1) (cs:=(mI [((2*(((1+(1+x4))+x8)+x11))-1)-x65])) A Tryz.underlying26 A (by decide) A (by kernel_rfl) A) (fun v_ p_ h=>by show IsRow 3 1 1 (mI [((2*(((1+(1+x4))+x8)+x11))-1)-(intOf_o (vf 7))]) v_ p_;rw[vE7];exact h)
 intro vf pf hmu hR
 have e1:=hR 1 (by decide)
 have e7:(∃pm_,(pf 7)=[pm_]∧(fun u_ p_=>(∃x_:Int,u_=jI x_∧0≤x_∧x_<min (2*(((1+(1+x4))+x8)+x11)) 12)∧p_=curE g a len cap) (vf 7) pm_):=hR 7 (by decide)
 obtain⟨p64,pE7,R65⟩:=e7
 obtain⟨v63,vE7⟩:∃x,vf 7=x:=⟨_,rfl⟩
 rw[vE7] at R65
 obtain⟨⟨x65,rfl,x650,x651⟩,rfl⟩:=R65
 have e9:IsRow 3 1 1 (mI [((2*(((1+(1+x4))+x8)+x11))-1)-(intOf_o (vf 7))]) (vf 9) (pf 9):=hR 9 (by decide)
 rw[vE7] at e9
 obtain⟨g66,vE9,pE9⟩:=e9
 have q0:=hR 0 (by decide)
 have q1:=hR 1 (by decide)
 have q2:=hR 2 (by decide)
 have q3:=hR 3 (by decide)
 have q4:=hR 4 (by decide)
 have q5:=hR 5 (by decide)
 have q6:=hR 6 (by decide)
 have q8:=hR 8 (by decide)
 refine cE (bO [115,70,39,18,16,12,11,10,9,8,3,2,1,0] _ (sk 119 (congrArg some e1.1) (sk 127 (congrArg some vE9) (aB _))) A) (by simp only[pE7,vE7,pE9,vE9,q0.2,q1.2,q2.2,q3.2,q4.2,q5.2,q6.2,q8.2,fS]<;>rfl) ?_
 simp only[List.drop_succ_cons,List.drop_zero]
 refine cW (i:=5) (z:=jI 0) (bytes:=8) A A A A Tryz.underlying26 (by kernel_rfl) A A A A (aG 1 A) (cO _) (by first|omega|(simp;done)|(simp;omega)) (cH os ([((2*(((1+(1+x4))+x8)+x11))-1)-x65])) (dL os ([((2*(((1+(1+x4))+x8)+x11))-1)-x65])) (fun _=>A) ?_
 intro v67
 refine aP A (cQ 3 A A A) (dZ (i:=5) A (fun ho68=>?_))
 refine fI (i:=6) (cs':=#[jI (1+x4),uq,u,v67]) A A A A A A ho68 A A A A (dB (cK (bZ 1 A (aP A (iM A A A) (dJ 1 A ?_)))))
 refine aZ 8 [0,7,6,5,4,3,2] A A (by decide) ?_
 exact cI (k-1) v67 (os++([((2*(((1+(1+x4))+x8)+x11))-1)-x65])) ⟨by omega,⟨by simp;omega,.inr (by simp)⟩,os_app hoo (by unfold LtOk;omega)⟩ (by omega) (cT A) (.refl _)
 refine bR (aS A ?_)
 refine bM (dI ?_)
 refine aO (bF (cF (aP A (aF (cs:=[jI (1+x4),uq,u,uo]) A A A A A (aD 4 A 0 A)) ?_)))
 refine dZ (i:=3) A (fun ho69=>?_)
 refine dZ (i:=2) A (fun ho70=>?_)
 refine dZ (i:=1) A (fun ho71=>?_)
 refine bI (cs':=#[jI (1+x4),uq,u,uo]) (i:=5) (off:=0) (us:=[jI (1+x4),uq,u,uo]) A A A A A A A (aA A (aA ho71 (aA ho70 (aA ho69 bA)))) A A A (bR ?_)
 refine aV (pU (i:=1) A (fun oQ=>?_))
 refine pU (i:=2) A (fun oA=>?_)
 refine pU (i:=3) A (fun oO=>?_)
 refine aZ 7 [5,6,3,2,1,0] A A (by decide) ?_
 refine cZ (bigE [curE g a len cap,ntE (Nt.mk (1+x4) uq u uo ss gs os)]::boxE b1 #[jI (1+x4),uq,u,uo] 28::l) (fun w hm=>by
     have h1:Mem _ ([bigE (ss.map sqPart),rS9 46 3 uq ss sqC]++(rS9 67 2 u gs anC::rI9 3 uo os::curE g a len cap::boxE b1 #[jI (1+x4),uq,u,uo] 28::l)) w:=hm
     have h2:Mem _ ([sqsE uq ss,rS9 67 2 u gs anC,rI9 3 uo os]++(curE g a len cap::boxE b1 #[jI (1+x4),uq,u,uo] 28::l)) w:=h1.big
     have h3:Mem _ (ntE (Nt.mk (1+x4) uq u uo ss gs os)::curE g a len cap::boxE b1 #[jI (1+x4),uq,u,uo] 28::l) w:=Mem.big h2
     exact Mem.big (ps:=[curE g a len cap,ntE (Nt.mk (1+x4) uq u uo ss gs os)]) (h3.perm (.swap _ _ _))) ?_
 exact eG (rs:=[.cell 8 28]) (vs:=[.agg #[jI (1+x4),uq,u,uo]]) A ⟨⟨b1,0,[jI (1+x4),uq,u,uo],A,A,by kernel_rfl,by kernel_rfl,aD 1 A 0 A⟩,trivial⟩ A (fun w hm=>⟨_,bigE [curE g a len cap,ntE (Nt.mk (1+x4) uq u uo ss gs os)],A,⟨Nt.mk (1+x4) uq u uo ss gs os,A,A,⟨oQ,oA,oO⟩,nt_mk (by omega) (by omega) (by omega) (by omega) (by omega) hso hgo hoo (by omega) (by omega),by dsimp only;omega,by dsimp only;omega,by dsimp only;omega,by dsimp only;omega⟩,hm.sub (.cons_cons _ (.cons _ (.refl _)))⟩)
open Go.RowKit
theorem Es {a b:Int}(ha:a=0∨a=1) (hb:b=0∨b=1):bits .and .i64 a b=a*b:=by
  rcases ha with e|e<;>rcases hb with e'|e'<;>rw[e,e']<;>decide
theorem Gp {a l:Int}(ha:a=0∨a=1):bits .xor .i64 a (l % 2)=if l % 2=0 then a else 1-a:=by
  rcases(show l % 2=0∨l % 2=1 by omega) with e|e<;>rcases ha with e'|e'<;>rw[e,e']<;>decide
theorem mul_01 {a b:Int}(ha:a=0∨a=1) (hb:b=0∨b=1):a*b=0∨a*b=1:=by
  rcases ha with e|e<;>rcases hb with e'|e'<;>rw[e,e']<;>decide
theorem uZ {v:Int}(h0:0≤v) (h1:v≤31):bits .andNot .i64 v 1=v-v % 2:=by
  have key:∀m:Fin 32,bits .andNot .i64 ((m.val:Nat):Int) 1=((m.val:Nat):Int)-((m.val:Nat):Int) % 2:=by decide
  have:=key ⟨v.toNat,by omega⟩
  rw[show(((⟨v.toNat,by omega⟩:Fin 32).val:Nat):Int)=v by show((v.toNat:Nat):Int)=v;omega] at this
  exact this
def fillZ (C:Nat) (vs:List Int):List Int:=vs++List.replicate (C-vs.length) 0
theorem gL {C:Nat}{vs:List Int}(h:vs.length≤C):(fillZ C vs).length=C:=by simp[fillZ];omega
theorem jT {C:Nat}{vs:List Int}{k:Nat}(h:k<vs.length):(fillZ C vs).getD k 0=vs.getD k 0:=fZ h
theorem oD {C:Nat}{vs:List Int}(h:vs.length=C):fillZ C vs=vs:=by unfold fillZ;rw[h,Nat.sub_self];simp
theorem iK {C:Nat}{vs:List Int}{x:Int}{j:Nat}(hj:j=vs.length) (h:vs.length<C):(fillZ C vs).set j x=fillZ C (vs++[x]):=by
  subst hj
  unfold fillZ
  rw[List.set_append_right _ _ (Nat.le_refl _),Nat.sub_self,List.length_append,List.length_singleton,show C-vs.length=(C-(vs.length+1))+1 by omega,List.replicate_succ,List.set_cons_zero]
  simp
theorem wV {C:Nat}(h:1≤C):List.replicate C (0:Int)=fillZ C [0]:=by
  unfold fillZ
  obtain⟨c,rfl⟩:∃c,C=c+1:=⟨C-1,by omega⟩
  simp[List.replicate_succ]
def preA (n:Nt) (inp:Int) (k:Nat):List Int:=[0]++(List.range k).map (fun k=>inp / 2 ^ k % 2)
def preB (n:Nt) (st:List Int) (inp:Int) (k:Nat):List Int:=preA n inp n.ins.toNat++(st.take k).map (· % 2)
theorem jQ (n:Nt) (inp:Int) (k:Nat):(preA n inp k).length=1+k:=by simp[preA];omega
theorem sL (n:Nt) (inp:Int) (k:Nat):preA n inp k++[inp / 2 ^ k % 2]=preA n inp (k+1):=by unfold preA;rw[List.range_succ,List.map_append,List.append_assoc];rfl
theorem kG (n:Nt) (st:List Int) (inp:Int) {k:Nat}(h:k≤st.length):(preB n st inp k).length=1+n.ins.toNat+k:=by simp[preB,jQ];omega
theorem sK (n:Nt) (st:List Int) (inp:Int) {k:Nat}(h:k<st.length):preB n st inp k++[st.getD k 0 % 2]=preB n st inp (k+1):=by unfold preB;rw[eT 0 h,List.map_append,List.append_assoc];rfl
theorem sJ (n:Nt) (st:List Int) (inp:Int):preA n inp n.ins.toNat=preB n st inp 0:=by simp[preB]
theorem vR (n:Nt) (st:List Int) (inp:Int):preB n st inp st.length=valL n st inp 0:=by
  show preB n st inp st.length=leafL n st inp
  unfold preB preA leafL;rw[List.take_length]
def seqZ (kd v:Int):Int:=if kd=0 then 0 else v-v % 2+v / 2 % 2
theorem Cq {kd v:Int}(h:0≤v):0≤seqZ kd v:=by unfold seqZ;split<;>omega
structure StOk (n:Nt) (st:List Int):Prop where
  len:st.length=n.ss.length
  rng:∀k,k<n.ss.length→0≤st.getD k 0∧st.getD k 0≤31∧((n.ss.getD k sq0).kd=0→st.getD k 0≤1)
theorem dU (x lo hi:Int) (w:World)  :
   Calls Tryz.prog 39 #[.int .i64 x,.int .i64 lo,.int .i64 hi] w (Ans w (.bool (inR x lo hi))):=by
 refine bN (N:=15) (args:=[jI x,jI lo,jI hi]) Tryz.func39 A A (bD 1 A (aC (bZ 2 A ?_)))
 refine gO A A A A A A (fun h1=>?_) (fun h1=>?_)
 refine aM 3 A (qY A A A A A A (fun h2=>?_) (fun h2=>?_))
 refine aU 2 A ?_
 exact aV (cA A A (congrArg _ (((eK _ _ _).2 (by omega)).symm)))
 refine aU 2 A ?_
 exact aV (cA A A (congrArg _ ((Bool.eq_false_iff.2 (fun h=>by have:=(eK _ _ _).1 h;omega)).symm)))
 refine aU 6 A ?_
 exact aV (cA A A (congrArg _ ((Bool.eq_false_iff.2 (fun h=>by have:=(eK _ _ _).1 h;omega)).symm)))
theorem cS (n:Nt) (w:World) (hr:RdsNt w n) (hn:NtOk n) :
   Calls Tryz.prog 38 #[.agg #[.int .i64 n.ins,n.sv,n.av,n.ov]] w (Ans w (.int .i64 n.cnt)):=by
 have hi0:=hn.i0
 have hi1:=hn.i1
 have hs1:=hn.s1
 have ha1:=hn.a1
 have ho1:=hn.o1
 have hcnt:n.cnt=1+n.ins+n.ss.length+n.gs.length:=rfl
 have hfst:n.fst=1+n.ins+n.ss.length:=rfl
 refine bN (N:=36) (args:=[.agg #[jI n.ins,n.sv,n.av,n.ov]]) Tryz.func38 A A (cF ?_)
 refine cR A (cN A A) ?_
 intro b1
 refine aU 1 A (eP (aP A (cQ 0 A A A) (aP A (aN A A A (aH 0 A A)) ?_)))
 refine dA A (aJ A A (fun w hm=>aY (dU n.ins 0 20 w))) (bW (fun h2=>?_) (fun h2=>absurd ((((eK _ _ _).2 (by omega))).symm.trans h2) (by decide)))
 refine aM 2 A (aP A (cQ 1 A A A) (aP A (aN A A A (aH 0 A A)) (aP A (bC A Tryz.underlying24 A (aE hr.sq)) ?_)))
 refine fJ A A A A A A (fun h3=>absurd h3 (by omega)) (fun h3=>?_)
 refine aM 2 A (aP A (cQ 2 A A A) (aP A (aN A A A (aH 0 A A)) (aP A (bC A Tryz.underlying25 A (aE hr.an)) ?_)))
 refine fJ A A A A A A (fun h4=>absurd h4 (by omega)) (fun h4=>?_)
 refine aM 2 A (aP A (cQ 3 A A A) (aP A (aN A A A (aH 0 A A)) (aP A (bC A Tryz.underlying26 A (aE hr.ou)) ?_)))
 refine fJ A A A A A A (fun h5=>absurd h5 (by omega)) (fun h5=>?_)
 refine aU 1 A (aS A (bY (cF (aP A (cQ 0 A A A) (aP A (aN A A A (aH 0 A A)) (aP A (dM A A A) (aP A (cQ 1 A A A) (aP A (aN A A A (aH 0 A A)) ?_))))))))
 refine aP A (bC A Tryz.underlying24 A (aE hr.sq)) (aP A (dM A A A) (aP A (cQ 2 A A A) (aP A (aN A A A (aH 0 A A)) (aP A (bC A Tryz.underlying25 A (aE hr.an)) (aP A (dM A A A) (aU 1 A ?_))))))
 exact aV (cA A A A)
theorem dD (n:Nt) (w:World) (hr:RdsNt w n) (hn:NtOk n) :
   Calls Tryz.prog 41 #[.agg #[.int .i64 n.ins,n.sv,n.av,n.ov]] w (Ans w (.int .i64 n.fst)):=by
 have hi0:=hn.i0
 have hi1:=hn.i1
 have hs1:=hn.s1
 have ha1:=hn.a1
 have ho1:=hn.o1
 have hcnt:n.cnt=1+n.ins+n.ss.length+n.gs.length:=rfl
 have hfst:n.fst=1+n.ins+n.ss.length:=rfl
 refine bN (N:=10) (args:=[.agg #[jI n.ins,n.sv,n.av,n.ov]]) Tryz.func41 A A (cF ?_)
 refine cR A (cN A A) ?_
 intro b1
 refine aU 1 A (cF (aP A (cQ 0 A A A) (aP A (aN A A A (aH 0 A A)) (aP A (dM A A A) (aP A (cQ 1 A A A) (aP A (aN A A A (aH 0 A A)) (aP A (bC A Tryz.underlying24 A (aE hr.sq)) (aP A (dM A A A) (aM 1 A ?_)))))))))
 refine bR ?_
 exact aV (cA A A A)
theorem jS (x m:Int) (w:World) (hx:LtOk x m) (hm:m≤100000) :
   Calls Tryz.prog 40 #[.int .i64 x,.int .i64 m] w (Ans w (.bool true)):=by
 unfold LtOk at hx
 refine bN (N:=13) (args:=[jI x,jI m]) Tryz.func40 A A (bD 1 A (aC (bZ 1 A ?_)))
 refine gO A A A A A A (fun h1=>?_) (fun h1=>absurd h1 (by omega))
 refine aM 2 A (aP A (fF A A A (by refine⟨?_,?_,?_⟩<;>omega)) ?_)
 refine aM 1 A (bQ A A A A A A (fun h2=>?_) (fun h2=>absurd h2 (by omega)))
 refine aU 2 A ?_
 exact aV (cA A A A)
theorem gW (n:Nt) (w:World) (hr:RdsNt w n) (hn:NtOk n) :
   Calls Tryz.prog 28 #[.agg #[.int .i64 n.ins,n.sv,n.av,n.ov]] w (Ret w (fun v' post=>post=[rI9 3 v' (rtsL n n.ss.length)])):=by
 have hi0:=hn.i0
 have hi1:=hn.i1
 have hs1:=hn.s1
 have ha1:=hn.a1
 have ho1:=hn.o1
 have hcnt:n.cnt=1+n.ins+n.ss.length+n.gs.length:=rfl
 have hfst:n.fst=1+n.ins+n.ss.length:=rfl
 refine bN (N:=25) (args:=[.agg #[jI n.ins,n.sv,n.av,n.ov]]) Tryz.func28 A A (cF ?_)
 refine cR A (cN A A) ?_
 intro b1
 refine aU 1 A (cF ?_)
 refine dP A (dH (s:=1) A Tryz.underlying26 A) ?_
 intro g2
 refine aP A (cQ 3 A A A) (aP A (aN A A A (aH 1 A A)) ?_)
 refine cW (i:=0) (z:=jI 0) (bytes:=8) (n':=n.os.length) (xs':=(mI n.os)) A A A A Tryz.underlying26 (by kernel_rfl) A A A A (aE hr.ou) (cO _) (by first|omega|(simp;done)|(simp;omega)) (Nat.zero_add _) (List.nil_append _) (fun _=>A) ?_
 intro v3
 refine aU 1 A (aC (bD 1 A (bE ?_)))
 refine iC (α:=Nat) (β:=Value) (γ:=List Int) [0,1,2] A (fun k u zs=>[rI9 3 u zs,nB9 b1 n]) (fun k u zs=>[(3,u),(4,jI (k:Int))]) (fun k u zs=>k≤n.ss.length∧zs=rtsL n k) (fun k u zs=>n.ss.length-k) 0 _ n.os ⟨by omega,by simp[rtsL]⟩ (cT A) (dS A) ?_
 intro k u zs hi4
 obtain⟨hk,hz⟩:=hi4
 have hzl:zs.length≤16+4*k:=by rw[hz];exact gM hn k hk
 refine aC (aC (bZ 1 A (aP A (cQ 1 A A A) (aP A (aN A A A (aH 1 A A)) (aP A (bC A Tryz.underlying24 A (aE hr.sq)) ?_)))))
 refine bQ A A A A A A (fun h5=>?_) (fun h5=>?_)
 refine bR (aR A (bY (fM (bZ 1 A (aP A (cQ 1 A A A) ?_)))))
 have hx4:=(hn.sq _ (bS (d:=sq0) (show k<n.ss.length by omega))).len
 refine aP A (aN A A A (aH 1 A A)) (aM 1 A (aP A (dF 3 A A A A (aE hr.sq)) (aP A (cC (k0:=2) A A A (aE hr.sq) (by omega)) ?_)))
 refine aP A (bG (u:=(n.ss.getD k sq0).iv) A A A (aE hr.sq) ((dE sqC 3 (fun _=>A) n.ss sq0 (show k<_ by omega) (by decide)).trans A)) (cW (i:=0) (z:=jI 0) (bytes:=8) A A A A Tryz.underlying26 (by kernel_rfl) A A A A (fun w hm=>(hr.at (k:=k) (by omega)).below hm.bel) (cO _) (by first|omega|(simp;done)|(simp;omega)) (cH zs ((n.ss.getD k sq0).xs)) (dL zs ((n.ss.getD k sq0).xs)) (fun _=>A) ?_)
 intro v6
 refine dJ 1 A (cK (bZ 1 A (aP A (dM A A A) (dJ 1 A ?_))))
 exact cI (k+1) v6 (zs++((n.ss.getD k sq0).xs)) ⟨by omega,by rw[hz,iT n (by omega)]⟩ (by omega) (cT rfl) (dS rfl)
 refine bR (aS A ?_)
 refine bM (dI ?_)
 refine aO (bF (bD 2 A ?_))
 exact aV (dX (post:=[rI9 3 u zs]) A A (eJ [0] A) (by rw[hz,show k=n.ss.length by omega]))
theorem eA (n:Nt) (w:World) (hr:RdsNt w n) (hn:NtOk n) :
   Calls Tryz.prog 16 #[.agg #[.int .i64 n.ins,n.sv,n.av,n.ov]] w (Ans w (.bool true)):=by
 have hi0:=hn.i0
 have hi1:=hn.i1
 have hs1:=hn.s1
 have ha1:=hn.a1
 have ho1:=hn.o1
 have hcnt:n.cnt=1+n.ins+n.ss.length+n.gs.length:=rfl
 have hfst:n.fst=1+n.ins+n.ss.length:=rfl
 refine bN (N:=104) (args:=[.agg #[jI n.ins,n.sv,n.av,n.ov]]) Tryz.func16 A A (cF ?_)
 refine cR A (cN A A) ?_
 intro b1
 refine aU 1 A (cF (aP A (aF (cs:=[jI n.ins,n.sv,n.av,n.ov]) A A A A A (aD 0 A 0 A)) ?_))
 refine dA A (aJ A A (fun w hm=>aY (cS n w (hr.below hm.bel) hn))) (aU 1 A (aC (aC (bZ 1 A ?_))))
 refine cM A A A A A A (fun h2=>absurd h2 (by omega)) (fun h2=>?_)
 refine bR (aS A (bY (aC (bD 1 A (bE ?_)))))
 refine hO (α:=Nat) [0,1,2,3,12] A (fun k=>[nB9 b1 n]) (fun k=>[(4,jI (k:Int))]) (fun k=>k≤n.ss.length) (fun k=>n.ss.length-k) 0 (Nat.zero_le _) (cT A) (dS A) ?_
 intro k hi3
 have hk:=hi3
 refine aC (aC (bZ 1 A (aP A (cQ 1 A A A) (aP A (aN A A A (aH 0 A A)) (aP A (bC A Tryz.underlying24 A (aE hr.sq)) ?_)))))
 refine bQ A A A A A A (fun h4=>?_) (fun h4=>?_)
 refine bR (aR A (bY (fM (cF ?_))))
 have hqk:=(hn.sq _ (bS (d:=sq0) (show k<n.ss.length by omega))).kind
 refine aP A (cQ 1 A A A) (aP A (aN A A A (aH 0 A A)) (aM 1 A (aP A (dF 3 A A A A (aE hr.sq)) ?_)))
 refine aP A (eI (us:=[jI ((n.ss.getD k sq0).kd),jI ((n.ss.getD k sq0).it),(n.ss.getD k sq0).iv]) A A A A (aE hr.sq) (by omega) A (fC sqC 3 (fun _=>A) n.ss sq0 (show k<_ by omega) A)) (cR A (bP (z:=.agg #[jI 0,jI 0,.slice none 0 0]) A A) ?_)
 intro b5
 refine bI (cs':=#[jI ((n.ss.getD k sq0).kd),jI ((n.ss.getD k sq0).it),(n.ss.getD k sq0).iv]) (i:=0) (off:=0) (us:=[jI ((n.ss.getD k sq0).kd),jI ((n.ss.getD k sq0).it),(n.ss.getD k sq0).iv]) A A A A A A A (aA A (aA A (aA (hr.at (k:=k) (by omega)).one bA))) A A A (bR (cF (aP A (cQ 0 A A A) (aP A (aN A A A (aH 0 A A)) ?_))))
 refine cM A A A A A A (fun h6=>?_) (fun h6=>?_)
 refine aM 1 A (aP A (cQ 1 A A A) (aP A (aN A A A (aH 0 A A)) ?_))
 refine dA A (aJ A A (fun w hm=>aY (dU ((n.ss.getD k sq0).it) 0 1 w))) (bW (fun h7=>?_) (fun h7=>absurd ((((eK _ _ _).2 (by omega))).symm.trans h7) (by decide)))
 refine aM 2 A (aP A (cQ 2 A A A) (aP A (aN A A A (aH 0 A A)) ?_))
 refine aP A (bC A Tryz.underlying26 A (fun w hm=>(hr.at (k:=k) (by omega)).below hm.bel)) (cM A A A A A A (fun h8=>?_) (fun h8=>?_))
 refine aU 18 A (hH A (cK (bZ 1 A (aP A (dM A A A) (dJ 1 A ?_)))))
 exact cU (k+1) (by omega) (by omega) (cT A) (eJ [1] A)
 refine aM 2 A (aP A (cQ 0 A A A) (aP A (aN A A A (aH 0 A A)) ?_))
 refine cM A A A A A A (fun h9=>?_) (fun h9=>?_)
 refine aM 1 A (aP A (cQ 1 A A A) (aP A (aN A A A (aH 0 A A)) ?_))
 refine dA A (aJ A A (fun w hm=>aY (dU ((n.ss.getD k sq0).it) 0 31 w))) (bW (fun h10=>?_) (fun h10=>absurd ((((eK _ _ _).2 (by omega))).symm.trans h10) (by decide)))
 refine aM 2 A (aP A (cQ 2 A A A) (aP A (aN A A A (aH 0 A A)) ?_))
 refine aP A (bC A Tryz.underlying26 A (fun w hm=>(hr.at (k:=k) (by omega)).below hm.bel)) (cM A A A A A A (fun h11=>?_) (fun h11=>?_))
 refine aU 3 A (hH A (cK (bZ 1 A (aP A (dM A A A) (dJ 1 A ?_)))))
 exact cU (k+1) (by omega) (by omega) (cT A) (eJ [1] A)
 refine aU 3 A (aR A (bD 1 A ?_))
 refine aV (aQ ?_)
 refine fL ?_
 refine aQ (aL ?_)
 exfalso
 omega
 refine aU 13 A (aR A ?_)
 refine bD 1 A ?_
 refine aV (aQ ?_)
 refine fL ?_
 refine aQ (aL ?_)
 exfalso
 omega
 refine aM 12 A (aP A (cQ 0 A A A) (aP A (aN A A A (aH 0 A A)) ?_))
 refine cM A A A A A A (fun h12=>?_) (fun h12=>?_)
 refine aM 1 A (aP A (cQ 1 A A A) (aP A (aN A A A (aH 0 A A)) ?_))
 refine dA A (aJ A A (fun w hm=>aY (dU ((n.ss.getD k sq0).it) 0 31 w))) (bW (fun h13=>?_) (fun h13=>absurd ((((eK _ _ _).2 (by omega))).symm.trans h13) (by decide)))
 refine aM 2 A (aP A (cQ 2 A A A) (aP A (aN A A A (aH 0 A A)) ?_))
 refine aP A (bC A Tryz.underlying26 A (fun w hm=>(hr.at (k:=k) (by omega)).below hm.bel)) (cM A A A A A A (fun h14=>?_) (fun h14=>?_))
 refine aU 3 A (hH A (cK (bZ 1 A (aP A (dM A A A) (dJ 1 A ?_)))))
 exact cU (k+1) (by omega) (by omega) (cT A) (eJ [1] A)
 refine aU 3 A (aR A (bD 1 A ?_))
 refine aV (aQ ?_)
 refine fL ?_
 refine aQ (aL ?_)
 exfalso
 omega
 refine aU 13 A (aR A ?_)
 refine bD 1 A ?_
 refine aV (aQ ?_)
 refine fL ?_
 refine aQ (aL ?_)
 exfalso
 omega
 refine bR (aS A ?_)
 refine bM (dI ?_)
 refine aO (bF (cF (aP A (aF (cs:=[jI n.ins,n.sv,n.av,n.ov]) A A A A A (aD 0 A 0 A)) ?_)))
 refine eB A A A (aJ A A (fun w hm=>gW n w (hr.below hm.bel) hn)) ?_
 intro v15 p16 R17
 subst R17
 refine aU 1 A (aC (bD 1 A (bE ?_)))
 refine hO (α:=Nat) [0,1,2,3,6,12,17] A (fun q=>[rowE 3 1 v15 ((rtsL n n.ss.length).length) (mI (rtsL n n.ss.length)),nB9 b1 n]) (fun q=>[(7,jI (q:Int))]) (fun q=>q≤(rtsL n n.ss.length).length) (fun q=>(rtsL n n.ss.length).length-q) 0 (Nat.zero_le _) (cT A) (dS A) ?_
 intro q hi18
 have hq:=hi18
 refine eP ?_
 have hzl:=gM hn n.ss.length (Nat.le_refl _)
 refine aM 2 A (aP A (bC A Tryz.underlying26 A (aG 0 A)) ?_)
 refine bQ A A A A A A (fun h19=>?_) (fun h19=>?_)
 refine bR (aR A (bY (fM (cF ?_))))
 have hlk:=eM hn (i:=q) (by omega)
 have hzl:=gM hn n.ss.length (Nat.le_refl _)
 refine aM 2 A (aP A (dF 1 A A A A (aG 0 A)) (aP A (bG (u:=jI ((rtsL n n.ss.length).getD q 0)) A A A (aG 0 A) (eS (show _<(rtsL n n.ss.length).length by omega))) (aM 1 A ?_)))
 refine dA A (aJ A A (fun w hm=>aY (jS ((rtsL n n.ss.length).getD q 0) n.cnt w (by first|assumption|(unfold LtOk;omega)) (by omega)))) (aU 1 A (hH A (cK (bZ 1 A (aP A (dM A A A) (dJ 1 A ?_))))))
 exact cU (q+1) (by omega) (by omega) (cT A) (dS A)
 refine bR (aS A ?_)
 refine bM (dI ?_)
 refine aO (bF (aC (bD 1 A (bE ?_))))
 refine hO (α:=Nat) [0,1,2,3,6,12,17,61] A (fun j=>[rowE 3 1 v15 ((rtsL n n.ss.length).length) (mI (rtsL n n.ss.length)),nB9 b1 n]) (fun j=>[(8,jI (j:Int))]) (fun j=>j≤n.gs.length) (fun j=>n.gs.length-j) 0 (Nat.zero_le _) (cT A) (dS A) ?_
 intro j hi20
 have hj:=hi20
 refine aC (aC (bZ 1 A (aP A (cQ 2 A A A) (aP A (aN A A A (aH 1 A A)) (aP A (bC A Tryz.underlying25 A (aE hr.an)) ?_)))))
 refine bQ A A A A A A (fun h21=>?_) (fun h21=>?_)
 refine bR (aR A (bY (fM (aC ?_))))
 have hlj:=hn.an j (by omega)
 obtain⟨hlj1,hlj2⟩:=hlj
 refine cJ 26 [[],[0],[],[1,2],[3],[4],[],[6],[],[7,8],[5,9],[10],[11],[12],[12,13],[12],[12,14,15],[12,16],[12,17],[12],[12,19],[12],[12,20,21],[12,18,22],[12,23],[12,24]] [78,79,80,81,82,83,84,85,86,87,88,89,90,91,92,93,94,95,96,97,98,99,100,101,102,103] [.pointer (some ⟨b1,0+2,none⟩),n.av,jI (j:Int),elP n.av ((j:Int).toNat*2),elP n.av ((j:Int).toNat*2+0),jI ((n.gs.getD j an0).a),.agg #[jI n.ins,n.sv,n.av,n.ov],jI n.fst,jI (j:Int),jI (n.fst+(j:Int)),.bool true,.bool false,.bool false,.pointer (some ⟨b1,0+2,none⟩),n.av,jI (j:Int),elP n.av ((j:Int).toNat*2),elP n.av ((j:Int).toNat*2+1),jI ((n.gs.getD j an0).b),.agg #[jI n.ins,n.sv,n.av,n.ov],jI n.fst,jI (j:Int),jI (n.fst+(j:Int)),.bool true,.bool false,.bool false] (by kernel_rfl) A ?_ ?_
 exact⟨bK A (cQ 2 A A A) A,bK A (aN A A A (aH 1 A A)) A,bK A (aK A) A,bK A (dF 2 A A A A (aE hr.an)) A,bK A (cC (k0:=0) A A A (aE hr.an) (by omega)) A,bK A (bG (u:=jI ((n.gs.getD j an0).a)) A A A (aE hr.an) ((dE anC 2 (fun _=>A) n.gs an0 (show j<_ by omega) (by decide)).trans A)) A,bK A (aF (cs:=[jI n.ins,n.sv,n.av,n.ov]) A A A A A (aD 1 A 0 A)) A,.inl ⟨A,aJ A A (fun w hm=>aY (dD n w (hr.below hm.bel) hn))⟩,bK A (aK A) A,bK A (dM A A A) A,.inl ⟨A,aJ (by kernel_rfl) A (fun w hm=>aY (jS ((n.gs.getD j an0).a) (n.fst+(j:Int)) w (by first|assumption|(unfold LtOk;omega)) (by omega)))⟩,bK A (aK A) A,bK A (aK A) A,bK A (cQ 2 A A A) A,bK A (aN A A A (aH 1 A A)) A,bK A (aK A) A,bK A (dF 2 A A A A (aE hr.an)) A,bK A (cC (k0:=1) A A A (aE hr.an) (by omega)) A,bK A (bG (u:=jI ((n.gs.getD j an0).b)) A A A (aE hr.an) ((dE anC 2 (fun _=>A) n.gs an0 (show j<_ by omega) (by decide)).trans A)) A,bK A (aF (cs:=[jI n.ins,n.sv,n.av,n.ov]) A A A A A (aD 1 A 0 A)) A,.inl ⟨A,aJ A A (fun w hm=>aY (dD n w (hr.below hm.bel) hn))⟩,bK A (aK A) A,bK A (dM A A A) A,.inl ⟨A,aJ (by kernel_rfl) A (fun w hm=>aY (jS ((n.gs.getD j an0).b) (n.fst+(j:Int)) w (by first|assumption|(unfold LtOk;omega)) (by omega)))⟩,bK A (aK A) A,bK A (aK A) A,trivial⟩
 simp only[List.drop_succ_cons,List.drop_zero]
 refine bR (hH A (cK (bZ 1 A (aP A (dM A A A) (dJ 1 A ?_)))))
 exact cU (j+1) (by omega) (by omega) (cT A) (dS A)
 refine bR (aS A ?_)
 refine bM (dI ?_)
 refine aO (bF (bD 1 A ?_))
 exact aV (cA A A A)
theorem vB (kd v:Int) (w:World) (hs0:kd=0∨kd=1) (hs1:0≤v∧v≤31) (hs2:kd=0→v≤1) :
   Calls Tryz.prog 87 #[.int .i64 kd,.int .i64 v,.int .i64 0] w (Ans w (.int .i64 (seqZ kd v))):=by
 refine bN (N:=49) (args:=[jI kd,jI v,jI 0]) Tryz.func87 A A (bD 1 A (aC (aC (bZ 1 A ?_))))
 refine cM A A A A A A (fun h1=>?_) (fun h1=>?_)
 refine aM 2 A (dA A (aJ A A (fun w hm=>aY (dU v 0 1 w))) ?_)
 refine bW (fun h2=>?_) (fun h2=>absurd ((((eK _ _ _).2 (by omega))).symm.trans h2) (by decide))
 refine aU 1 A (aR A (aC (bZ 1 A (aP A (cP A (by decide) A A (r:=0) (by decide)) (aU 1 A ?_)))))
 refine aV (aL ?_)
 exact cA rfl rfl (congrArg _ (show _=seqZ kd v by unfold seqZ;first|rw[if_pos (by omega)]|(rw[if_neg (by omega)]<;>omega)))
 refine aU 4 A (aS A (bY (aC (aC (bZ 1 A ?_)))))
 refine hQ A A A A A A (fun h3=>?_) (fun h3=>?_)
 refine aU 5 A (aR A (bD 1 A ?_))
 refine aV (aL ?_)
 exfalso
 omega
 refine aM 2 A (dA A (aJ A A (fun w hm=>aY (dU v 0 31 w))) ?_)
 refine bW (fun h4=>?_) (fun h4=>absurd ((((eK _ _ _).2 (by omega))).symm.trans h4) (by decide))
 refine aU 2 A (aS A (bY (aC (bZ 1 A (aP A (cP A (by decide) A A (r:=0) (by decide)) (aP A (dM A A A) (aM 1 A (?_))))))))
 refine bR (aC (bZ 1 A (aP A (cP A (by decide) A A (r:=v-v % 2) (uZ hs1.1 hs1.2)) (aM 2 A (aP A (iO A A A (by omega)) ?_)))))
 rw[show(v / 2 ^ (0+1:Int).toNat:Int)=v / 2 from rfl]
 refine aP A (cP A (by decide) A A (r:=(v / 2) % 2) (Bit.and_one _ (by omega) (by omega))) (aP A (dM A A A) (aU 1 A (aC (aC (bZ 1 A (aP A (iO A A A (by omega)) (aP A (cP A (by decide) A A (r:=0) (by decide)) ?_)))))))
 refine cM A A A A A A (fun h5=>absurd h5 (by omega)) (fun h5=>?_)
 refine bR (aS A (bY (bD 2 A ?_)))
 exact aV (cA rfl rfl (congrArg _ (show _=seqZ kd v by unfold seqZ;first|rw[if_pos (by omega)]|(rw[if_neg (by omega)]<;>omega))))
theorem pK (n:Nt) (st:List Int) (v:Value) (w:World) (hr:RdsNt w n) (hn:NtOk n) (hst:RdsW w v 1 st.length (st.map (Value.int .i64))) (hso:StOk n st) :
   Calls Tryz.prog 67 #[.agg #[.int .i64 n.ins,n.sv,n.av,n.ov],v] w (Ans w (.bool true)):=by
 have hi0:=hn.i0
 have hi1:=hn.i1
 have hs1:=hn.s1
 have ha1:=hn.a1
 have ho1:=hn.o1
 have hcnt:n.cnt=1+n.ins+n.ss.length+n.gs.length:=rfl
 have hfst:n.fst=1+n.ins+n.ss.length:=rfl
 have hsl:=hso.len
 refine bN (N:=35) (args:=[.agg #[jI n.ins,n.sv,n.av,n.ov],v]) Tryz.func67 A A (cF ?_)
 refine cR A (cN A A) ?_
 intro b1
 refine aU 1 A (eP (aP A (aF (cs:=[jI n.ins,n.sv,n.av,n.ov]) A A A A A (aD 0 A 0 A)) ?_))
 refine dA A (aJ A A (fun w hm=>aY (eA n w (hr.below hm.bel) hn))) (aM 3 A (aP A (bC A Tryz.underlying26 A (aE hst)) (aP A (cQ 1 A A A) (aP A (aN A A A (aH 0 A A)) (aP A (bC A Tryz.underlying24 A (aE hr.sq)) ?_)))))
 refine hQ A A A A A A (fun h2=>absurd h2 (by omega)) (fun h2=>?_)
 refine aU 1 A (aS A (bY (aC (bD 1 A ?_))))
 refine bE ?_
 refine hO (α:=Nat) [0,1,2,4,16] A (fun k=>[nB9 b1 n]) (fun k=>[(5,jI (k:Int))]) (fun k=>k≤st.length) (fun k=>st.length-k) 0 (Nat.zero_le _) (cT A) (dS A) ?_
 intro k hi3
 have hk:=hi3
 refine aC (aC (bZ 2 A (aP A (bC A Tryz.underlying26 A (aE hst)) ?_)))
 refine bQ A A A A A A (fun h4=>?_) (fun h4=>?_)
 refine bR (aR A (bY (fM (aC ?_))))
 have hqk:=(hn.sq _ (bS (d:=sq0) (show k<n.ss.length by omega))).kind
 have hsk:=hso.rng k (by omega)
 have hzz:=Cq (kd:=(n.ss.getD k sq0).kd) hsk.1
 have hb5:(decide (seqZ ((n.ss.getD k sq0).kd) (st.getD k 0)<0))=false:=decide_eq_false (by omega)
 refine cJ 12 [[],[0],[],[1,2],[3],[4],[],[],[6,7],[8],[5,9],[10]] [23,24,25,26,27,28,29,30,31,32,33,34] [.pointer (some ⟨b1,0+1,none⟩),n.sv,jI (k:Int),elP n.sv ((k:Int).toNat*3),elP n.sv ((k:Int).toNat*3+0),jI ((n.ss.getD k sq0).kd),v,jI (k:Int),elP v ((k:Int).toNat*1),jI (st.getD k 0),jI (seqZ ((n.ss.getD k sq0).kd) (st.getD k 0)),.bool false] (by kernel_rfl) A ?_ ?_
 exact⟨bK A (cQ 1 A A A) A,bK A (aN A A A (aH 0 A A)) A,bK A (aK A) A,bK A (dF 3 A A A A (aE hr.sq)) A,bK A (cC (k0:=0) A A A (aE hr.sq) (by omega)) A,bK A (bG (u:=jI ((n.ss.getD k sq0).kd)) A A A (aE hr.sq) ((dE sqC 3 (fun _=>A) n.ss sq0 (show k<_ by omega) (by decide)).trans A)) A,bK A (aK A) A,bK A (aK A) A,bK A (dF 1 A A A A (aE hst)) A,bK A (hC A A A (aE hst)) A,.inl ⟨A,aJ A A (fun w hm=>aY (vB ((n.ss.getD k sq0).kd) (st.getD k 0) w (by omega) (by omega) (by omega)))⟩,.inl ⟨A,eQ (dC A A A A) hb5⟩,trivial⟩
 simp only[List.drop_succ_cons,List.drop_zero]
 refine bR (hH A (cK (bZ 1 A (aP A (dM A A A) (dJ 1 A ?_)))))
 exact cU (k+1) (by omega) (by omega) (cT A) (dS A)
 refine bR (aS A ?_)
 refine bM (dI ?_)
 refine aO (bF (bD 1 A ?_))
 exact aV (cA A A A)
theorem jR (xs:List Int) (l:Int) (v:Value) (w:World) (hv:RdsW w v 1 xs.length (xs.map (Value.int .i64))) (hl:0≤l∧l<2*xs.length) (h01:xs.getD (l / 2).toNat 0=0∨xs.getD (l / 2).toNat 0=1) (hlen:xs.length≤100000) :
   Calls Tryz.prog 31 #[v,.int .i64 l] w (Ans w (.int .i64 (bitL xs l))):=by
 refine bN (N:=13) (args:=[v,jI l]) Tryz.func31 A A (bD 1 A (aC (bZ 2 A ?_)))
 refine aP A (fF A A A (by refine⟨?_,?_,?_⟩<;>omega)) ?_
 refine aP A (dF 1 A A A A (aE hv)) (aP A (rR A A A (aE hv)) (aM 1 A (aP A (cP A (by decide) A A (r:=l % 2) (Bit.and_one _ (by omega) (by omega))) (aP A (cP A (by decide) A A (r:=bitL xs l) (Gp h01)) (aU 1 A ?_)))))
 exact aV (cA A A A)
theorem zN {inp:Int}(h:0≤inp∧inp≤4294967295) (k:Nat):0≤inp / 2 ^ k∧inp / 2 ^ k<4294967296:=by
  have hp:(0:Int)<2 ^ k:=Int.pow_pos (by decide)
  have h1:=Int.ediv_nonneg h.1 (Int.le_of_lt hp)
  have h2:=Int.ediv_le_self (2 ^ k) h.1
  omega
theorem mW (n:Nt) (st:List Int) (v:Value) (inp:Int) (w:World) (hr:RdsNt w n) (hn:NtOk n) (hst:RdsW w v 1 st.length (st.map (Value.int .i64))) (hso:StOk n st) (hin:0≤inp∧inp≤4294967295) :
   Calls Tryz.prog 30 #[.agg #[.int .i64 n.ins,n.sv,n.av,n.ov],v,.int .i64 inp] w (Ret w (fun v' post=>post=[rI9 3 v' (valsL n st inp)])):=by
 have hi0:=hn.i0
 have hi1:=hn.i1
 have hs1:=hn.s1
 have ha1:=hn.a1
 have ho1:=hn.o1
 have hcnt:n.cnt=1+n.ins+n.ss.length+n.gs.length:=rfl
 have hfst:n.fst=1+n.ins+n.ss.length:=rfl
 have hsl:=hso.len
 refine bN (N:=82) (args:=[.agg #[jI n.ins,n.sv,n.av,n.ov],v,jI inp]) Tryz.func30 A A (cF ?_)
 refine cR A (cN A A) ?_
 intro b1
 refine aU 1 A (eP (aP A (aF (cs:=[jI n.ins,n.sv,n.av,n.ov]) A A A A A (aD 0 A 0 A)) (aM 1 A ?_)))
 refine dA A (aJ A A (fun w hm=>aY (pK n st v w (hr.below hm.bel) hn (hst.below hm.bel) hso))) (aU 1 A (aS A (bY (cF (aP A (aF (cs:=[jI n.ins,n.sv,n.av,n.ov]) A A A A A (aD 0 A 0 A)) ?_)))))
 refine dA A (aJ A A (fun w hm=>aY (cS n w (hr.below hm.bel) hn))) (dP A (gN (z:=jI 0) (s:=1) (bytes:=8) (n:=(List.replicate n.cnt.toNat (0:Int)).length) (cs:=(mI (List.replicate n.cnt.toNat (0:Int)))) A Tryz.underlying26 A (by decide) A A (by first|(rw[List.length_replicate];done)|(rw[List.length_replicate];omega)) (by first|(rw[List.length_replicate];done)|(rw[List.length_replicate];omega)) (by rw[List.length_replicate];omega) (gY _)) ?_)
 intro g2
 refine aU 1 A (aC (bD 1 A (bE ?_)))
 refine gT (α:=Nat) (β:=List Int) [0,1,2,3,6,7,14] A (fun k zs=>[rI9 3 (.slice (some ⟨g2,0,none⟩) ((List.replicate n.cnt.toNat (0:Int)).length) ((List.replicate n.cnt.toNat (0:Int)).length)) zs,nB9 b1 n]) (fun k zs=>[(8,jI (k:Int))]) (fun k zs=>(k:Int)≤n.ins∧zs=fillZ n.cnt.toNat (preA n inp k)) (fun k zs=>n.ins.toNat-k) 0 (List.replicate n.cnt.toNat (0:Int)) ⟨by omega,wV (by omega)⟩ (cT A) (dS A) ?_
 intro k zs hi3
 obtain⟨hk,hz⟩:=hi3
 have hzl:zs.length=n.cnt.toNat:=by rw[hz];exact gL (by rw[jQ];omega)
 refine aC (aC (bZ 1 A (aP A (cQ 0 A A A) (aP A (aN A A A (aH 1 A A)) ?_))))
 refine bQ A A A A A A (fun h4=>?_) (fun h4=>?_)
 refine(dB (bF (aR A (fP (bF (aC (bE (bJ (aM 2 A (aP A (dM A A A) (aM 2 A (aP A (iO A A A (by omega)) (aP A (cP A (by decide) A A (r:=inp / 2 ^ k % 2) (by rw[show(inp / 2 ^ (k:Int).toNat:Int)=inp / 2 ^ k by rw[Int.toNat_natCast]];exact Bit.and_one _ (zN hin k).1 (zN hin k).2)) ?_)))))))))))))
 refine aP A (dF 1 A A A A (aG 0 A)) (eN (i:=0) (n':=(zs.set ((1+(k:Int)).toNat) (inp / 2 ^ k % 2)).length) (xs':=(mI (zs.set ((1+(k:Int)).toNat) (inp / 2 ^ k % 2)))) A A A A A A A A (by first|omega|(simp only[List.length_set];omega)) List.length_set.symm (fB _ _ _) A ?_)
 refine dB (cK (bZ 1 A (aP A (dM A A A) (dJ 1 A ?_))))
 exact cG (k+1) (zs.set ((1+(k:Int)).toNat) (inp / 2 ^ k % 2)) ⟨by omega,by rw[hz];exact(iK (by rw[jQ];omega) (by rw[jQ];omega)).trans (by rw[sL])⟩ (by omega) (cT rfl) (dS rfl)
 refine bR (aS A ?_)
 refine bM (dI ?_)
 refine aO (bF (aC (bD 1 A (bE ?_))))
 refine gT (α:=Nat) (β:=List Int) [0,1,2,3,6,7,14,22] rfl (fun k zs=>[rI9 3 (.slice (some ⟨g2,0,none⟩) ((List.replicate n.cnt.toNat (0:Int)).length) ((List.replicate n.cnt.toNat (0:Int)).length)) zs,nB9 b1 n]) (fun k zs=>[(9,jI (k:Int))]) (fun k zs=>(k:Int)≤(st.length:Int)∧zs=fillZ n.cnt.toNat (preB n st inp k)) (fun k zs=>(st.length:Int).toNat-k) 0 zs ⟨by omega,by rw[hz,show k=n.ins.toNat by omega,sJ n st inp]⟩ (cT rfl) (dS rfl) ?_
 intro k zs hi5
 obtain⟨hk,hz⟩:=hi5
 have hzl:zs.length=n.cnt.toNat:=by rw[hz];exact gL (by rw[kG n st inp (by omega)];omega)
 refine aC (aC (bZ 2 A (aP A (bC A Tryz.underlying26 A (aE hst)) ?_)))
 refine bQ A A A A A A (fun h6=>?_) (fun h6=>?_)
 refine bR (aR A (bY (fM ?_)))
 have hsk:=hso.rng k (by omega)
 refine cJ 12 [[],[],[1],[2],[],[3,4],[],[],[6,7],[8],[9],[0,5]] [39,40,41,42,43,44,45,46,47,48,49,50] [.slice (some ⟨g2,0,none⟩) ((List.replicate n.cnt.toNat (0:Int)).length) ((List.replicate n.cnt.toNat (0:Int)).length),.pointer (some ⟨b1,0+0,none⟩),jI n.ins,jI (1+n.ins),jI (k:Int),jI ((1+n.ins)+(k:Int)),v,jI (k:Int),elP v ((k:Int).toNat*1),jI (st.getD k 0),jI ((st.getD k 0) % 2),elP (.slice (some ⟨g2,0,none⟩) ((List.replicate n.cnt.toNat (0:Int)).length) ((List.replicate n.cnt.toNat (0:Int)).length)) (((1+n.ins)+(k:Int)).toNat*1)] (by kernel_rfl) A ?_ ?_
 exact⟨bK A (aK A) A,bK A (cQ 0 A A A) A,bK A (aN A A A (aH 1 A A)) A,bK A (dM A A A) A,bK A (aK A) A,bK A (dM A A A) A,bK A (aK A) A,bK A (aK A) A,bK A (dF 1 A A A A (aE hst)) A,bK A (hC A A A (aE hst)) A,bK A (cP A (by decide) A A (r:=(st.getD k 0) % 2) (Bit.and_one _ (by omega) (by omega))) A,bK A (dF 1 A A A A (aG 0 A)) A,trivial⟩
 simp only[List.drop_succ_cons,List.drop_zero]
 refine eN (i:=0) (n':=(zs.set (((1+n.ins)+(k:Int)).toNat) ((st.getD k 0) % 2)).length) (xs':=(mI (zs.set (((1+n.ins)+(k:Int)).toNat) ((st.getD k 0) % 2)))) A A A A A A A A (by first|omega|(simp only[List.length_set];omega)) List.length_set.symm (fB _ _ _) A (dB (cK (bZ 1 A (aP A (dM A A A) (dJ 1 A ?_)))))
 exact cG (k+1) (zs.set (((1+n.ins)+(k:Int)).toNat) ((st.getD k 0) % 2)) ⟨by omega,by rw[hz];exact(iK (by rw[kG n st inp (by omega)];omega) (by rw[kG n st inp (by omega)];omega)).trans (by rw[sK n st inp (by omega)])⟩ (by omega) (cT rfl) (dS rfl)
 refine bR (aS A ?_)
 refine bM (dI ?_)
 refine aO (bF (aC (bD 1 A (bE ?_))))
 refine gT (α:=Nat) (β:=List Int) [0,1,2,3,6,7,14,22,36] rfl (fun k zs=>[rI9 3 (.slice (some ⟨g2,0,none⟩) ((List.replicate n.cnt.toNat (0:Int)).length) ((List.replicate n.cnt.toNat (0:Int)).length)) zs,nB9 b1 n]) (fun k zs=>[(10,jI (k:Int))]) (fun k zs=>(k:Int)≤(n.gs.length:Int)∧zs=fillZ n.cnt.toNat (valL n st inp k)) (fun k zs=>(n.gs.length:Int).toNat-k) 0 zs ⟨by omega,by rw[hz,show k=st.length by omega,vR]⟩ (cT rfl) (dS rfl) ?_
 intro k zs hi7
 obtain⟨hk,hz⟩:=hi7
 have hzl:zs.length=n.cnt.toNat:=by rw[hz];exact gL (by rw[gE n st inp k (by omega)];omega)
 have hvl:=gE n st inp k (by omega)
 have hv01:=vF hn hsl inp k (by omega)
 refine aC (aC (bZ 1 A (aP A (cQ 2 A A A) (aP A (aN A A A (aH 1 A A)) (aP A (bC A Tryz.underlying25 A (aE hr.an)) ?_)))))
 refine bQ A A A A A A (fun h8=>?_) (fun h8=>?_)
 refine bR (aR A (bY (fM ?_)))
 have hak:=hn.an k (by omega)
 obtain⟨⟨hA0,hA1⟩,hC0,hC1⟩:=id hak
 have hg1:zs.getD ((n.gs.getD k an0).a / 2).toNat 0=(valL n st inp k).getD ((n.gs.getD k an0).a / 2).toNat 0:=by rw[hz];exact jT (by omega)
 have hg2:zs.getD ((n.gs.getD k an0).b / 2).toNat 0=(valL n st inp k).getD ((n.gs.getD k an0).b / 2).toNat 0:=by rw[hz];exact jT (by omega)
 have hA:zs.getD ((n.gs.getD k an0).a / 2).toNat 0=0∨zs.getD ((n.gs.getD k an0).a / 2).toNat 0=1:=by rw[hg1];exact hv01 _ (by omega)
 have hB:zs.getD ((n.gs.getD k an0).b / 2).toNat 0=0∨zs.getD ((n.gs.getD k an0).b / 2).toNat 0=1:=by rw[hg2];exact hv01 _ (by omega)
 have hB1:bitL zs (n.gs.getD k an0).a=bitL (valL n st inp k) (n.gs.getD k an0).a:=by unfold bitL;rw[hg1]
 have hB2:bitL zs (n.gs.getD k an0).b=bitL (valL n st inp k) (n.gs.getD k an0).b:=by unfold bitL;rw[hg2]
 have hP1:bitL zs (n.gs.getD k an0).a=0∨bitL zs (n.gs.getD k an0).a=1:=by rw[hB1];exact jA hv01 hA0 (by omega)
 have hP2:bitL zs (n.gs.getD k an0).b=0∨bitL zs (n.gs.getD k an0).b=1:=by rw[hB2];exact jA hv01 hC0 (by omega)
 refine cJ 23 [[],[],[1],[],[2,3],[],[],[6],[],[7,8],[9],[10],[5,11],[],[],[14],[],[15,16],[17],[18],[13,19],[12,20],[0,4]] [58,59,60,61,62,63,64,65,66,67,68,69,70,71,72,73,74,75,76,77,78,79,80] [.slice (some ⟨g2,0,none⟩) ((List.replicate n.cnt.toNat (0:Int)).length) ((List.replicate n.cnt.toNat (0:Int)).length),.agg #[jI n.ins,n.sv,n.av,n.ov],jI n.fst,jI (k:Int),jI (n.fst+(k:Int)),.slice (some ⟨g2,0,none⟩) ((List.replicate n.cnt.toNat (0:Int)).length) ((List.replicate n.cnt.toNat (0:Int)).length),.pointer (some ⟨b1,0+2,none⟩),n.av,jI (k:Int),elP n.av ((k:Int).toNat*2),elP n.av ((k:Int).toNat*2+0),jI ((n.gs.getD k an0).a),jI (bitL zs ((n.gs.getD k an0).a)),.slice (some ⟨g2,0,none⟩) ((List.replicate n.cnt.toNat (0:Int)).length) ((List.replicate n.cnt.toNat (0:Int)).length),.pointer (some ⟨b1,0+2,none⟩),n.av,jI (k:Int),elP n.av ((k:Int).toNat*2),elP n.av ((k:Int).toNat*2+1),jI ((n.gs.getD k an0).b),jI (bitL zs ((n.gs.getD k an0).b)),jI ((bitL zs ((n.gs.getD k an0).a))*(bitL zs ((n.gs.getD k an0).b))),elP (.slice (some ⟨g2,0,none⟩) ((List.replicate n.cnt.toNat (0:Int)).length) ((List.replicate n.cnt.toNat (0:Int)).length)) ((n.fst+(k:Int)).toNat*1)] (by kernel_rfl) A ?_ ?_
 exact⟨bK A (aK A) A,bK A (aF (cs:=[jI n.ins,n.sv,n.av,n.ov]) A A A A A (aD 1 A 0 A)) A,.inl ⟨A,aJ A A (fun w hm=>aY (dD n w (hr.below hm.bel) hn))⟩,bK A (aK A) A,bK A (dM A A A) A,bK A (aK A) A,bK A (cQ 2 A A A) A,bK A (aN A A A (aH 1 A A)) A,bK A (aK A) A,bK A (dF 2 A A A A (aE hr.an)) A,bK A (cC (k0:=0) A A A (aE hr.an) (by omega)) A,bK A (bG (u:=jI ((n.gs.getD k an0).a)) A A A (aE hr.an) ((dE anC 2 (fun _=>A) n.gs an0 (show k<_ by omega) (by decide)).trans A)) A,.inl ⟨A,aJ A A (fun w hm=>aY (jR zs ((n.gs.getD k an0).a) _ w ((aG 0 A) w hm) (by omega) (by first|assumption|omega) (by omega)))⟩,bK A (aK A) A,bK A (cQ 2 A A A) A,bK A (aN A A A (aH 1 A A)) A,bK A (aK A) A,bK A (dF 2 A A A A (aE hr.an)) A,bK A (cC (k0:=1) A A A (aE hr.an) (by omega)) A,bK A (bG (u:=jI ((n.gs.getD k an0).b)) A A A (aE hr.an) ((dE anC 2 (fun _=>A) n.gs an0 (show k<_ by omega) (by decide)).trans A)) A,.inl ⟨A,aJ A A (fun w hm=>aY (jR zs ((n.gs.getD k an0).b) _ w ((aG 0 A) w hm) (by omega) (by first|assumption|omega) (by omega)))⟩,bK A (cP A (by decide) A A (r:=(bitL zs ((n.gs.getD k an0).a))*(bitL zs ((n.gs.getD k an0).b))) (Es hP1 hP2)) A,bK A (dF 1 A A A A (aG 0 A)) A,trivial⟩
 simp only[List.drop_succ_cons,List.drop_zero]
 refine eN (i:=0) (n':=(zs.set ((n.fst+(k:Int)).toNat) ((bitL zs ((n.gs.getD k an0).a))*(bitL zs ((n.gs.getD k an0).b)))).length) (xs':=((zs.set ((n.fst+(k:Int)).toNat) ((bitL zs ((n.gs.getD k an0).a))*(bitL zs ((n.gs.getD k an0).b)))).map (Value.int .i64))) A A A A A A A A (by first|omega|(simp only[List.length_set];omega)) List.length_set.symm (fB _ _ _) A (dB (cK (bZ 1 A (aP A (dM A A A) (dJ 1 A ?_)))))
 exact cG (k+1) (zs.set ((n.fst+(k:Int)).toNat) ((bitL zs ((n.gs.getD k an0).a))*(bitL zs ((n.gs.getD k an0).b)))) ⟨by omega,by rw[hB1,hB2,hz,show(n.fst+(k:Int)).toNat=(valL n st inp k).length by omega,kF n st inp (by omega)];exact iK rfl (by omega)⟩ (by omega) (cT rfl) (dS rfl)
 refine bR (aS A ?_)
 refine bM (dI ?_)
 refine aO (bF (bD 2 A ?_))
 exact aV (dX (post:=[rI9 3 (.slice (some ⟨g2,0,none⟩) ((List.replicate n.cnt.toNat (0:Int)).length) ((List.replicate n.cnt.toNat (0:Int)).length)) zs]) A A (eJ [0] A) (by rw[hz,show k=n.gs.length by omega,oD (by rw[gE n st inp _ (Nat.le_refl _)];omega)]))
open Go.RowKit
def isAndB (n:Nt) (k:Int):Bool:=decide (n.fst≤k∧k<n.cnt)
theorem gX {n:Nt}{k:Int}:isAndB n k=true↔n.fst≤k∧k<n.cnt:=by unfold isAndB;exact decide_eq_true_iff
theorem eU (n:Nt) (w:World) (hr:RdsNt w n) (hn:NtOk n) :
   Calls Tryz.prog 55 #[.agg #[.int .i64 n.ins,n.sv,n.av,n.ov]] w (Ans w (.int .i64 n.cnt)):=by
 have hi0:=hn.i0
 have hi1:=hn.i1
 have hs1:=hn.s1
 have ha1:=hn.a1
 have ho1:=hn.o1
 have hcnt:n.cnt=1+n.ins+n.ss.length+n.gs.length:=rfl
 have hfst:n.fst=1+n.ins+n.ss.length:=rfl
 refine bN (N:=14) (args:=[.agg #[jI n.ins,n.sv,n.av,n.ov]]) Tryz.func55 A A (cF ?_)
 refine cR A (cN A A) ?_
 intro b1
 refine aU 1 A (cF (aP A (cQ 0 A A A) (aP A (aN A A A (aH 0 A A)) (aP A (dM A A A) (aP A (cQ 1 A A A) (aP A (aN A A A (aH 0 A A)) (aP A (bC A Tryz.underlying24 A (aE hr.sq)) (aP A (dM A A A) (aP A (cQ 2 A A A) ?_)))))))))
 refine aP A (aN A A A (aH 0 A A)) (aP A (bC A Tryz.underlying25 A (aE hr.an)) (aP A (dM A A A) (aU 1 A ?_)))
 exact aV (cA A A A)
theorem nX (n:Nt) (w:World) (hr:RdsNt w n) (hn:NtOk n) :
   Calls Tryz.prog 61 #[.agg #[.int .i64 n.ins,n.sv,n.av,n.ov]] w (Ans w (.int .i64 n.cnt)):=by
 have hi0:=hn.i0
 have hi1:=hn.i1
 have hs1:=hn.s1
 have ha1:=hn.a1
 have ho1:=hn.o1
 have hcnt:n.cnt=1+n.ins+n.ss.length+n.gs.length:=rfl
 have hfst:n.fst=1+n.ins+n.ss.length:=rfl
 refine bN (N:=27) (args:=[.agg #[jI n.ins,n.sv,n.av,n.ov]]) Tryz.func61 A A (cF ?_)
 refine cR A (cN A A) ?_
 intro b1
 refine aU 1 A (eP (aP A (cQ 0 A A A) (aP A (aN A A A (aH 0 A A)) ?_)))
 refine dA A (aJ A A (fun w hm=>aY (gP (eL _ _ _ w)))) (bW (fun h2=>?_) (fun h2=>absurd ((((eK _ _ _).2 (by omega))).symm.trans h2) (by decide)))
 refine aM 2 A (aP A (cQ 1 A A A) (aP A (aN A A A (aH 0 A A)) (aP A (bC A Tryz.underlying24 A (aE hr.sq)) ?_)))
 refine fJ A A A A A A (fun h3=>absurd h3 (by omega)) (fun h3=>?_)
 refine aM 2 A (aP A (cQ 2 A A A) (aP A (aN A A A (aH 0 A A)) (aP A (bC A Tryz.underlying25 A (aE hr.an)) ?_)))
 refine fJ A A A A A A (fun h4=>absurd h4 (by omega)) (fun h4=>?_)
 refine aM 2 A (aP A (cQ 3 A A A) (aP A (aN A A A (aH 0 A A)) (aP A (bC A Tryz.underlying26 A (aE hr.ou)) ?_)))
 refine fJ A A A A A A (fun h5=>absurd h5 (by omega)) (fun h5=>?_)
 refine aU 1 A (aS A (bY (cF (aP A (aF (cs:=[jI n.ins,n.sv,n.av,n.ov]) A A A A A (aD 0 A 0 A)) ?_))))
 refine dA A (aJ A A (fun w hm=>aY (eU n w (hr.below hm.bel) hn))) (aU 1 A ?_)
 exact aV (cA A A A)
theorem gH (n:Nt) (w:World) (hr:RdsNt w n) (hn:NtOk n) :
   Calls Tryz.prog 51 #[.agg #[.int .i64 n.ins,n.sv,n.av,n.ov]] w (Ans w (.int .i64 n.fst)):=by
 have hi0:=hn.i0
 have hi1:=hn.i1
 have hs1:=hn.s1
 have ha1:=hn.a1
 have ho1:=hn.o1
 have hcnt:n.cnt=1+n.ins+n.ss.length+n.gs.length:=rfl
 have hfst:n.fst=1+n.ins+n.ss.length:=rfl
 refine bN (N:=10) (args:=[.agg #[jI n.ins,n.sv,n.av,n.ov]]) Tryz.func51 A A (cF ?_)
 refine cR A (cN A A) ?_
 intro b1
 refine aU 1 A (cF (aP A (cQ 0 A A A) (aP A (aN A A A (aH 0 A A)) (aP A (dM A A A) (aP A (cQ 1 A A A) (aP A (aN A A A (aH 0 A A)) (aP A (bC A Tryz.underlying24 A (aE hr.sq)) (aP A (dM A A A) (aM 1 A ?_)))))))))
 refine bR ?_
 exact aV (cA A A A)
theorem uO (n:Nt) (w:World) (hr:RdsNt w n) (hn:NtOk n) :
   Calls Tryz.prog 63 #[.agg #[.int .i64 n.ins,n.sv,n.av,n.ov]] w (Ans w (.int .i64 (1+n.ins))):=by
 have hi0:=hn.i0
 have hi1:=hn.i1
 have hs1:=hn.s1
 have ha1:=hn.a1
 have ho1:=hn.o1
 have hcnt:n.cnt=1+n.ins+n.ss.length+n.gs.length:=rfl
 have hfst:n.fst=1+n.ins+n.ss.length:=rfl
 refine bN (N:=6) (args:=[.agg #[jI n.ins,n.sv,n.av,n.ov]]) Tryz.func63 A A (cF ?_)
 refine cR A (cN A A) ?_
 intro b1
 refine aU 1 A (cF (aP A (cQ 0 A A A) (aP A (aN A A A (aH 0 A A)) (aP A (dM A A A) (aU 1 A ?_)))))
 exact aV (cA A A A)
theorem Bo (n:Nt) (k:Int) (w:World) (hr:RdsNt w n) (hn:NtOk n) :
   Calls Tryz.prog 57 #[.agg #[.int .i64 n.ins,n.sv,n.av,n.ov],.int .i64 k] w (Ans w (.bool (isAndB n k))):=by
 have hi0:=hn.i0
 have hi1:=hn.i1
 have hs1:=hn.s1
 have ha1:=hn.a1
 have ho1:=hn.o1
 have hcnt:n.cnt=1+n.ins+n.ss.length+n.gs.length:=rfl
 have hfst:n.fst=1+n.ins+n.ss.length:=rfl
 refine bN (N:=15) (args:=[.agg #[jI n.ins,n.sv,n.av,n.ov],jI k]) Tryz.func57 A A (cF ?_)
 refine cR A (cN A A) ?_
 intro b1
 refine aU 1 A (aC (bZ 1 A (aP A (aF (cs:=[jI n.ins,n.sv,n.av,n.ov]) A A A A A (aD 0 A 0 A)) ?_)))
 refine dA A (aJ A A (fun w hm=>aY (gH n w (hr.below hm.bel) hn))) (gO A A A A A A (fun h2=>?_) (fun h2=>?_))
 refine aM 2 A (aP A (aF (cs:=[jI n.ins,n.sv,n.av,n.ov]) A A A A A (aD 0 A 0 A)) ?_)
 refine dA A (aJ A A (fun w hm=>aY (eU n w (hr.below hm.bel) hn))) (bQ A A A A A A (fun h3=>?_) (fun h3=>?_))
 refine aU 2 A ?_
 exact aV (cA A A (congrArg _ (gX.2 (by omega)).symm))
 refine aU 2 A ?_
 exact aV (cA A A (congrArg _ (Bool.eq_false_iff.2 (fun h=>by have:=gX.1 h;omega)).symm))
 refine aU 7 A ?_
 exact aV (cA A A (congrArg _ (Bool.eq_false_iff.2 (fun h=>by have:=gX.1 h;omega)).symm))
theorem Bd (s:Sq) (w:World) (hs:SqOk s) (hx:RdsW w s.iv 1 s.xs.length (s.xs.map (Value.int .i64))) :
   Calls Tryz.prog 62 #[.agg #[.int .i64 s.kd,.int .i64 s.it,s.iv]] w (Ans w (.bool true)):=by
 have hk:=hs.kind
 refine bN (N:=27) (args:=[.agg #[jI s.kd,jI s.it,s.iv]]) Tryz.func62 A A (cF ?_)
 refine cR A (cN A A) ?_
 intro b1
 refine aU 1 A (eP (aP A (cQ 0 A A A) (aP A (aN A A A (aH 0 A A)) (bR (bE (aC ?_))))))
 refine bJ (cM A A A A A A (fun h2=>?_) (fun h2=>?_))
 refine aU 1 A (aR A (cF (aP A (cQ 1 A A A) (aP A (aN A A A (aH 0 A A)) ?_))))
 refine dA A (aJ A A (fun w hm=>aY (gP (eL _ _ _ w)))) (bW (fun h3=>?_) (fun h3=>absurd ((((eK _ _ _).2 (by omega))).symm.trans h3) (by decide)))
 refine aM 1 A (aP A (cQ 2 A A A) (aP A (aN A A A (aH 0 A A)) (aP A (bC A Tryz.underlying26 A (aE hx)) ?_)))
 refine cM A A A A A A (fun h4=>?_) (fun h4=>?_)
 refine aU 2 A ?_
 refine aV (aQ ?_)
 exact aL (cA A A A)
 refine aU 2 A ?_
 refine aV (aQ ?_)
 refine aL ?_
 exfalso
 omega
 refine aU 1 A (aS A (cF ?_))
 refine cM A A A A A A (fun h5=>?_) (fun h5=>?_)
 refine aU 1 A (aR A (cF (aP A (cQ 1 A A A) (aP A (aN A A A (aH 0 A A)) ?_))))
 refine dA A (aJ A A (fun w hm=>aY (gP (eL _ _ _ w)))) (bW (fun h6=>?_) (fun h6=>absurd ((((eK _ _ _).2 (by omega))).symm.trans h6) (by decide)))
 refine aM 1 A (aP A (cQ 2 A A A) (aP A (aN A A A (aH 0 A A)) (aP A (bC A Tryz.underlying26 A (aE hx)) ?_)))
 refine cM A A A A A A (fun h7=>?_) (fun h7=>?_)
 refine aU 2 A ?_
 refine aV (aQ ?_)
 exact aL (cA A A A)
 refine aU 2 A ?_
 refine aV (aQ ?_)
 refine aL ?_
 exfalso
 omega
 refine aU 1 A (hH A (cK (bD 1 A ?_)))
 refine aV ?_
 exfalso
 omega
theorem mV (xs:List Int) (v:Value) (w:World) (hv:RdsW w v 1 xs.length (xs.map (Value.int .i64))) (hlen:xs.length≤1000000000) :
   Calls Tryz.prog 64 #[v] w (Ret w (fun v' post=>post=[rI9 3 v' (xs)])):=by
 refine bN (N:=6) (args:=[v]) Tryz.func64 A A (bD 1 A (cF ?_))
 refine dP A (dH (s:=1) A Tryz.underlying26 A) ?_
 intro g1
 refine aM 1 A (cW (i:=0) (z:=jI 0) (bytes:=8) (n':=xs.length) (xs':=(mI xs)) A A A A Tryz.underlying26 (by kernel_rfl) A A A A (aE hv) (cO _) (by first|omega|(simp;done)|(simp;omega)) (Nat.zero_add _) (List.nil_append _) (fun _=>A) ?_)
 intro v2
 refine aU 1 A ?_
 exact aV (dX (post:=[rI9 3 v2 xs]) A A (dS A) A)
theorem sI (n:Nt) (w:World) (hr:RdsNt w n) (hn:NtOk n) :
   Calls Tryz.prog 26 #[.agg #[.int .i64 n.ins,n.sv,n.av,n.ov]] w (Ret w (fun v' post=>post=[rI9 3 v' (rtsL n n.ss.length)])):=by
 have hi0:=hn.i0
 have hi1:=hn.i1
 have hs1:=hn.s1
 have ha1:=hn.a1
 have ho1:=hn.o1
 have hcnt:n.cnt=1+n.ins+n.ss.length+n.gs.length:=rfl
 have hfst:n.fst=1+n.ins+n.ss.length:=rfl
 refine bN (N:=22) (args:=[.agg #[jI n.ins,n.sv,n.av,n.ov]]) Tryz.func26 A A (cF ?_)
 refine cR A (cN A A) ?_
 intro b1
 refine aU 1 A (cF (aP A (cQ 3 A A A) (aP A (aN A A A (aH 0 A A)) ?_)))
 refine eB A A A (aJ A A (fun w hm=>mV n.os _ w ((aE hr.ou) w hm) (by omega))) ?_
 intro v2 p3 R4
 subst R4
 refine aU 1 A (eP (aP A (cQ 1 A A A) (aP A (aN A A A (aH 1 A A)) (aP A (bC A Tryz.underlying24 A (aE hr.sq)) (aU 1 A ?_)))))
 refine bE ?_
 refine iC (α:=Nat) (β:=Value) (γ:=List Int) [0,1,2,10,11] A (fun k u zs=>[rI9 3 u zs,nB9 b1 n]) (fun k u zs=>[(3,u),(12,jI (k:Int))]) (fun k u zs=>k≤n.ss.length∧zs=rtsL n k) (fun k u zs=>n.ss.length-k) 0 _ n.os ⟨by omega,by simp[rtsL]⟩ (cT A) (dS A) ?_
 intro k u zs hi5
 obtain⟨hk,hz⟩:=hi5
 have hzl:zs.length≤16+4*k:=by rw[hz];exact gM hn k hk
 refine cF ?_
 refine bQ A A A A A A (fun h6=>?_) (fun h6=>?_)
 refine bR (nF A (bY (fM (cF (aP A (dF 3 A A A A (aE hr.sq)) ?_)))))
 refine aP A (eI (us:=[jI ((n.ss.getD k sq0).kd),jI ((n.ss.getD k sq0).it),(n.ss.getD k sq0).iv]) A A A A (aE hr.sq) (by omega) A (fC sqC 3 (fun _=>A) n.ss sq0 (show k<_ by omega) A)) (cR A (bP (z:=.agg #[jI 0,jI 0,.slice none 0 0]) A A) ?_)
 intro b7
 refine bI (cs':=#[jI ((n.ss.getD k sq0).kd),jI ((n.ss.getD k sq0).it),(n.ss.getD k sq0).iv]) (i:=0) (off:=0) (us:=[jI ((n.ss.getD k sq0).kd),jI ((n.ss.getD k sq0).it),(n.ss.getD k sq0).iv]) A A A A A A A (aA A (aA A (aA (hr.at (k:=k) (by omega)).one bA))) A A A (bR (bJ ?_))
 have hx4:=(hn.sq _ (bS (d:=sq0) (show k<n.ss.length by omega))).len
 refine aM 1 A (aP A (cQ 2 A A A) (aP A (aN A A A (aH 0 A A)) ?_))
 refine cW (i:=1) (z:=jI 0) (bytes:=8) A A A A Tryz.underlying26 (by kernel_rfl) A A A A (fun w hm=>(hr.at (k:=k) (by omega)).below hm.bel) (cO _) (by first|omega|(simp;done)|(simp;omega)) (cH zs ((n.ss.getD k sq0).xs)) (dL zs ((n.ss.getD k sq0).xs)) (fun _=>A) ?_
 intro v8
 refine dJ 1 A (cK (bJ (aP A (dM A A A) (dJ 1 A ?_))))
 exact cI (k+1) v8 (zs++((n.ss.getD k sq0).xs)) ⟨by omega,by rw[hz,iT n (by omega)]⟩ (by omega) (cT rfl) (eJ [1,0] rfl)
 refine bR (nG A ?_)
 refine bM (dI ?_)
 refine aO (bF (bD 2 A ?_))
 exact aV (dX (post:=[rI9 3 u zs]) A A (eJ [0] A) (by rw[hz,show k=n.ss.length by omega]))
theorem mQ (n:Nt) (w:World) (hr:RdsNt w n) (hn:NtOk n) :
   Calls Tryz.prog 24 #[.agg #[.int .i64 n.ins,n.sv,n.av,n.ov]] w (Ans w (.bool true)):=by
 have hi0:=hn.i0
 have hi1:=hn.i1
 have hs1:=hn.s1
 have ha1:=hn.a1
 have ho1:=hn.o1
 have hcnt:n.cnt=1+n.ins+n.ss.length+n.gs.length:=rfl
 have hfst:n.fst=1+n.ins+n.ss.length:=rfl
 refine bN (N:=67) (args:=[.agg #[jI n.ins,n.sv,n.av,n.ov]]) Tryz.func24 A A (cF ?_)
 refine cR A (cN A A) ?_
 intro b1
 refine aU 1 A (cF (aP A (aF (cs:=[jI n.ins,n.sv,n.av,n.ov]) A A A A A (aD 0 A 0 A)) ?_))
 refine dA A (aJ A A (fun w hm=>aY (nX n w (hr.below hm.bel) hn))) (aU 1 A (aC (aC (bZ 1 A ?_))))
 refine cM A A A A A A (fun h2=>absurd h2 (by omega)) (fun h2=>?_)
 refine bR (aS A (bY (eP (aP A (cQ 1 A A A) (aP A (aN A A A (aH 0 A A)) (aP A (bC A Tryz.underlying24 A (aE hr.sq)) (aM 1 A (?_))))))))
 refine bR (bE ?_)
 refine hO (α:=Nat) [0,1,2,3,14,16,17] A (fun k=>[nB9 b1 n]) (fun k=>[(18,jI (k:Int))]) (fun k=>k≤n.ss.length) (fun k=>n.ss.length-k) 0 (Nat.zero_le _) (cT A) (dS A) ?_
 intro k hi3
 have hk:=hi3
 refine cF ?_
 refine bQ A A A A A A (fun h4=>?_) (fun h4=>?_)
 refine bR (nF A (bY (fM (cF (aP A (dF 3 A A A A (aE hr.sq)) ?_)))))
 refine aP A (eI (us:=[jI ((n.ss.getD k sq0).kd),jI ((n.ss.getD k sq0).it),(n.ss.getD k sq0).iv]) A A A A (aE hr.sq) (by omega) A (fC sqC 3 (fun _=>A) n.ss sq0 (show k<_ by omega) A)) (cR A (bP (z:=.agg #[jI 0,jI 0,.slice none 0 0]) A A) ?_)
 intro b5
 refine bI (cs':=#[jI ((n.ss.getD k sq0).kd),jI ((n.ss.getD k sq0).it),(n.ss.getD k sq0).iv]) (i:=0) (off:=0) (us:=[jI ((n.ss.getD k sq0).kd),jI ((n.ss.getD k sq0).it),(n.ss.getD k sq0).iv]) A A A A A A A (aA A (aA A (aA (hr.at (k:=k) (by omega)).one bA))) A A A (bR (cF (aP A (aF (cs:=[jI ((n.ss.getD k sq0).kd),jI ((n.ss.getD k sq0).it),(n.ss.getD k sq0).iv]) A A A A A (aD 0 A 0 A)) ?_)))
 refine dA A (aJ A A (fun w hm=>aY (Bd (n.ss.getD k sq0) w (hn.sq _ (bS (d:=sq0) (by omega))) ((hr.at (k:=k) (by omega)).below hm.bel)))) (aU 1 A (hH A (cK (bJ (aP A (dM A A A) (dJ 1 A ?_))))))
 exact cU (k+1) (by omega) (by omega) (cT A) (eJ [1] A)
 refine bR (nG A ?_)
 refine bM (dI ?_)
 refine aO (bF (eP (aP A (aF (cs:=[jI n.ins,n.sv,n.av,n.ov]) A A A A A (aD 0 A 0 A)) ?_)))
 refine eB A A A (aJ A A (fun w hm=>sI n w (hr.below hm.bel) hn)) ?_
 intro v6 p7 R8
 subst R8
 refine aP A (bC A Tryz.underlying26 A (aG 0 A)) ?_
 have hzl:=gM hn n.ss.length (Nat.le_refl _)
 refine aU 1 A (bE ?_)
 refine hO (α:=Nat) [0,1,2,3,14,16,17,18,19,27,28] A (fun q=>[rowE 3 1 v6 ((rtsL n n.ss.length).length) (mI (rtsL n n.ss.length)),nB9 b1 n]) (fun q=>[(29,jI (q:Int))]) (fun q=>q≤(rtsL n n.ss.length).length) (fun q=>(rtsL n n.ss.length).length-q) 0 (Nat.zero_le _) (cT A) (dS A) ?_
 intro q hi9
 have hq:=hi9
 refine cF ?_
 refine bQ A A A A A A (fun h10=>?_) (fun h10=>?_)
 refine bR (nF A (bY (fM (cF (aP A (dF 1 A A A A (aG 0 A)) (aP A (bG (u:=jI ((rtsL n n.ss.length).getD q 0)) A A A (aG 0 A) (eS (show _<(rtsL n n.ss.length).length by omega))) (aM 1 A ?_)))))))
 refine bR (cF ?_)
 have hlk:=eM hn (i:=q) (by omega)
 obtain⟨hlk1,hlk2⟩:=hlk
 refine aM 2 A (aP A (fO A A A (by constructor<;>omega)) (aP A (iM A A A) ?_))
 refine dA A (aJ A A (fun w hm=>aY (gP (eL _ _ _ w)))) (bW (fun h11=>?_) (fun h11=>absurd ((((eK _ _ _).2 (by omega))).symm.trans h11) (by decide)))
 refine aU 1 A (hH A (cK (bJ (aP A (dM A A A) ?_))))
 have hzl:=gM hn n.ss.length (Nat.le_refl _)
 refine dJ 1 A ?_
 exact cU (q+1) (by omega) (by omega) (cT A) (dS A)
 refine bR (nG A ?_)
 refine bM (dI ?_)
 refine aO (bF (eP (aP A (cQ 2 A A A) (aP A (aN A A A (aH 1 A A)) (aP A (bC A Tryz.underlying25 A (aE hr.an)) (aU 1 A (bE ?_)))))))
 refine hO (α:=Nat) [0,1,2,3,14,16,17,18,19,27,28,29,30,41,42] A (fun j=>[rowE 3 1 v6 ((rtsL n n.ss.length).length) (mI (rtsL n n.ss.length)),nB9 b1 n]) (fun j=>[(43,jI (j:Int))]) (fun j=>j≤n.gs.length) (fun j=>n.gs.length-j) 0 (Nat.zero_le _) (cT A) (dS A) ?_
 intro j hi12
 have hj:=hi12
 refine cF ?_
 refine bQ A A A A A A (fun h13=>?_) (fun h13=>?_)
 refine bR (nF A (bY (fM (aC (bZ 1 A (aP A (dF 2 A A A A (aE hr.an)) ?_))))))
 refine aP A (eI (us:=[jI ((n.gs.getD j an0).a),jI ((n.gs.getD j an0).b)]) A A A A (aE hr.an) (by omega) A (fC anC 2 (fun _=>A) n.gs an0 (show j<_ by omega) A)) (cR A (bP (z:=.agg #[jI 0,jI 0]) A A) ?_)
 intro b14
 refine aM 1 A (bI (cs':=#[jI ((n.gs.getD j an0).a),jI ((n.gs.getD j an0).b)]) (i:=0) (off:=0) (us:=[jI ((n.gs.getD j an0).a),jI ((n.gs.getD j an0).b)]) A A A A A A A (aA A (aA A bA)) A A A ?_)
 refine bR (cF (aP A (aF (cs:=[jI n.ins,n.sv,n.av,n.ov]) A A A A A (aD 2 A 0 A)) ?_))
 refine dA A (aJ A A (fun w hm=>aY (gH n w (hr.below hm.bel) hn))) (aM 1 A (aP A (dM A A A) (aP A (fO A A A (by constructor<;>omega)) (aP A (iM A A A) (aU 1 A (cF ?_))))))
 have hlj:=hn.an j (by omega)
 obtain⟨⟨hlj1,hlj2⟩,hlj3,hlj4⟩:=hlj
 refine aP A (cQ 0 A A A) (aP A (aN A A A (aH 0 A A)) (aM 1 A ?_))
 refine dA A (aJ A A (fun w hm=>aY (gP (eL _ _ _ w)))) (bW (fun h15=>?_) (fun h15=>absurd ((((eK _ _ _).2 (by omega))).symm.trans h15) (by decide)))
 refine aM 2 A (aP A (cQ 1 A A A) (aP A (aN A A A (aH 0 A A)) (aM 1 A ?_)))
 refine dA A (aJ A A (fun w hm=>aY (gP (eL _ _ _ w)))) (bW (fun h16=>?_) (fun h16=>absurd ((((eK _ _ _).2 (by omega))).symm.trans h16) (by decide)))
 refine aU 2 A (hH A (cK (bJ (aP A (dM A A A) (dJ 1 A ?_)))))
 exact cU (j+1) (by omega) (by omega) (cT A) (eJ [1,0] A)
 refine bR (nG A ?_)
 refine bM (dI ?_)
 refine aO (bF (bD 1 A ?_))
 exact aV (cA A A A)
theorem Ep {xs:List Int}{l:Int}(h:xs.getD (l / 2).toNat 0=0∨xs.getD (l / 2).toNat 0=1):bits .xor .i64 (xs.getD (l / 2).toNat 0) (l % 2)=bitL xs l:=by unfold bitL;exact Gp h
theorem iX (xs:List Int) (l:Int) (v:Value) (w:World) (hv:RdsW w v 1 xs.length (xs.map (Value.int .i64))) (hl:0≤l∧l<2*xs.length) (h01:xs.getD (l / 2).toNat 0=0∨xs.getD (l / 2).toNat 0=1) (hlen:xs.length≤100000) :
   Calls Tryz.prog 27 #[v,.int .i64 l] w (Ans w (.int .i64 (bitL xs l))):=by
 refine bN (N:=13) (args:=[v,jI l]) Tryz.func27 A A (bD 1 A (aC (bZ 2 A ?_)))
 refine aP A (fF A A A (by refine⟨?_,?_,?_⟩<;>omega)) ?_
 refine aP A (dF 1 A A A A (aE hv)) (aP A (rR A A A (aE hv)) (aM 1 A (aP A (cP A (by decide) A A (r:=l % 2) (Bit.and_one _ (by omega) (by omega))) (aP A (cP A (by decide) A A (r:=bitL xs l) (Ep h01)) (aU 1 A ?_)))))
 exact aV (cA A A A)
theorem qU (g:Nat) (a:Option Addr) (len cap:Nat) (z:List Int) (w0:World) (l:List HP) (w:World) (hm0:Mem w0 (curE g a len cap::l) w) (hb:BRow .u8 w0 a len cap z) :
   Calls Tryz.prog 32 #[.pointer (some ⟨g,0,none⟩)] w (fun e_ w_=>∃v_ p_,e_=.returned v_∧(fun u_ p_=>∃n:Nt,u_=n.agg∧p_=bigE [curE g a len cap,ntE n]∧(n.sv.oneCell'=true∧n.av.oneCell'=true∧n.ov.oneCell'=true)∧NtOk n∧n.ins≤4∧(n.ss.length:Int)≤3∧(n.gs.length:Int)≤14∧1≤n.os.length) v_ p_∧Mem w0 (p_::l) w_):=by
 refine fW (N:=5) (args:=[pI g]) Tryz.func32 A A hm0 (cF ?_)
 refine cR A (bP (z:=.agg #[jI 0,.slice none 0 0,.slice none 0 0,.slice none 0 0]) A A) ?_
 intro b1
 refine bR (aC (bZ 1 A ?_))
 refine eH (R:=(fun u_ p_=>∃n:Nt,u_=n.agg∧p_=bigE [curE g a len cap,ntE n]∧(n.sv.oneCell'=true∧n.av.oneCell'=true∧n.ov.oneCell'=true)∧NtOk n∧n.ins≤4∧(n.ss.length:Int)≤3∧(n.gs.length:Int)≤14∧1≤n.os.length)) 1 A A A A A (fun l' w hm=>uG g a len cap z 4 3 14 _ _ _ hm hb (by decide) (by decide) (by decide)) ?_
 intro v2 p3 R4
 obtain⟨n,rfl,rfl,⟨o1n,o2n,o3n⟩,hn,hnq1,hnq2,hnq3,hnq4⟩:=R4
 refine eC (l':=(eB9 b1::bigE [curE g a len cap,ntE n]::l)) A ?_
 refine bI (cs':=#[jI n.ins,n.sv,n.av,n.ov]) (i:=0) (off:=0) (us:=[jI n.ins,n.sv,n.av,n.ov]) A A A A A A A (aA A (aA o1n (aA o2n (aA o3n bA)))) A A A (bR ?_)
 exact aV (eG (rs:=[.cell 2 28]) (vs:=[.agg #[jI n.ins,n.sv,n.av,n.ov]]) A ⟨⟨b1,0,[jI n.ins,n.sv,n.av,n.ov],A,A,by kernel_rfl,by kernel_rfl,aD 0 A 0 A⟩,trivial⟩ A (fun w hm=>⟨_,bigE [curE g a len cap,ntE n],A,⟨n,A,A,⟨o1n,o2n,o3n⟩,hn,hnq1,hnq2,hnq3,hnq4⟩,hm.sub (.cons _ (.refl _))⟩))
theorem and1N (x:Int):bits .and .i64 x 1=x % 2:=by
  show IntKind.i64.wrap ((BitVec.ofInt 64 x&&& BitVec.ofInt 64 1).toNat:Int)=_
  have h1:(BitVec.ofInt 64 (1:Int)).toNat=1:=by decide
  rw[BitVec.toNat_and,h1,Nat.and_one_is_mod,BitVec.toNat_ofInt]
  have h2:(x % ((2 ^ 64:Nat):Int)).toNat % 2<2:=Nat.mod_lt _ (by decide)
  rw[Bit.i64_small _ (by omega)]
  have h3:((2 ^ 64:Nat):Int)=18446744073709551616:=by decide
  rw[h3];omega
theorem nA (n:Nt) (st:List Int) (v:Value) (inp:Int) (w:World) (hr:RdsNt w n) (hn:NtOk n) (hst:RdsW w v 1 st.length (st.map (Value.int .i64))) (hso:StOk n st) :
   Calls Tryz.prog 25 #[.agg #[.int .i64 n.ins,n.sv,n.av,n.ov],v,.int .i64 inp] w (Ret w (fun v' post=>post=[rI9 3 v' (valsL n st inp)])):=by
 have hi0:=hn.i0
 have hi1:=hn.i1
 have hs1:=hn.s1
 have ha1:=hn.a1
 have ho1:=hn.o1
 have hcnt:n.cnt=1+n.ins+n.ss.length+n.gs.length:=rfl
 have hfst:n.fst=1+n.ins+n.ss.length:=rfl
 have hsl:=hso.len
 refine bN (N:=72) (args:=[.agg #[jI n.ins,n.sv,n.av,n.ov],v,jI inp]) Tryz.func25 A A (cF ?_)
 refine cR A (cN A A) ?_
 intro b1
 refine aU 1 A (cF (aP A (aF (cs:=[jI n.ins,n.sv,n.av,n.ov]) A A A A A (aD 0 A 0 A)) ?_))
 refine dA A (aJ A A (fun w hm=>aY (eU n w (hr.below hm.bel) hn))) (dP A (gN (z:=jI 0) (s:=1) (bytes:=8) (n:=(List.replicate n.cnt.toNat (0:Int)).length) (cs:=(mI (List.replicate n.cnt.toNat (0:Int)))) A Tryz.underlying26 A (by decide) A A (by first|(rw[List.length_replicate];done)|(rw[List.length_replicate];omega)) (by first|(rw[List.length_replicate];done)|(rw[List.length_replicate];omega)) (by rw[List.length_replicate];omega) (gY _)) ?_)
 intro g2
 refine aU 1 A (aC (bD 1 A (bE ?_)))
 refine gT (α:=Nat) (β:=List Int) [0,1,2,3,6,7] A (fun k zs=>[rI9 3 (.slice (some ⟨g2,0,none⟩) ((List.replicate n.cnt.toNat (0:Int)).length) ((List.replicate n.cnt.toNat (0:Int)).length)) zs,nB9 b1 n]) (fun k zs=>[(8,jI (k:Int))]) (fun k zs=>(k:Int)≤n.ins∧zs=fillZ n.cnt.toNat (preA n inp k)) (fun k zs=>n.ins.toNat-k) 0 (List.replicate n.cnt.toNat (0:Int)) ⟨by omega,wV (by omega)⟩ (cT A) (dS A) ?_
 intro k zs hi3
 obtain⟨hk,hz⟩:=hi3
 have hzl:zs.length=n.cnt.toNat:=by rw[hz];exact gL (by rw[jQ];omega)
 refine aC (aC (bZ 1 A (aP A (cQ 0 A A A) (aP A (aN A A A (aH 1 A A)) ?_))))
 refine bQ A A A A A A (fun h4=>?_) (fun h4=>?_)
 refine bR (aR A (bY (fM (bZ 2 A (aP A (dM A A A) (aM 2 A (aP A (tR A Tryz.underlying3 Tryz.underlying59 A (IntWalk.u64_in _ (by omega))) (aP A (iO A A A (by omega)) ?_))))))))
 refine aP A (cP A (by decide) A A (r:=inp / 2 ^ k % 2) (by rw[show(inp / 2 ^ (k:Int).toNat:Int)=inp / 2 ^ k by rw[Int.toNat_natCast]];exact and1N _)) (aP A (dF 1 A A A A (aG 0 A)) ?_)
 refine eN (i:=0) (n':=(zs.set ((1+(k:Int)).toNat) (inp / 2 ^ k % 2)).length) (xs':=(mI (zs.set ((1+(k:Int)).toNat) (inp / 2 ^ k % 2)))) A A A A A A A A (by first|omega|(simp only[List.length_set];omega)) List.length_set.symm (fB _ _ _) A (dB (cK (bZ 1 A (aP A (dM A A A) (dJ 1 A ?_)))))
 exact cG (k+1) (zs.set ((1+(k:Int)).toNat) (inp / 2 ^ k % 2)) ⟨by omega,by rw[hz];exact(iK (by rw[jQ];omega) (by rw[jQ];omega)).trans (by rw[sL])⟩ (by omega) (cT rfl) (dS rfl)
 refine bR (aS A ?_)
 refine bM (dI ?_)
 refine aO (bF (aC (aC (bZ 1 A (aP A (bC A Tryz.underlying26 A (aE hst)) (aU 1 A (bE ?_)))))))
 refine gT (α:=Nat) (β:=List Int) [0,1,2,3,6,7,19,31,32] rfl (fun k zs=>[rI9 3 (.slice (some ⟨g2,0,none⟩) ((List.replicate n.cnt.toNat (0:Int)).length) ((List.replicate n.cnt.toNat (0:Int)).length)) zs,nB9 b1 n]) (fun k zs=>[(33,jI (k:Int))]) (fun k zs=>(k:Int)≤(st.length:Int)∧zs=fillZ n.cnt.toNat (preB n st inp k)) (fun k zs=>(st.length:Int).toNat-k) 0 zs ⟨by omega,by rw[hz,show k=n.ins.toNat by omega,sJ n st inp]⟩ (cT rfl) (dS rfl) ?_
 intro k zs hi5
 obtain⟨hk,hz⟩:=hi5
 have hzl:zs.length=n.cnt.toNat:=by rw[hz];exact gL (by rw[kG n st inp (by omega)];omega)
 refine cF ?_
 refine bQ A A A A A A (fun h6=>?_) (fun h6=>?_)
 refine bR (nF A (bY (fM (aC (bZ 1 A (aP A (dF 1 A A A A (aE hst)) (aP A (hC A A A (aE hst)) ?_)))))))
 refine aU 2 A (bJ ?_)
 have hsk:=hso.rng k (by omega)
 refine aM 1 A (aP A (aF (cs:=[jI n.ins,n.sv,n.av,n.ov]) A A A A A (aD 1 A 0 A)) ?_)
 refine dA A (aJ A A (fun w hm=>aY (uO n w (hr.below hm.bel) hn))) (aM 1 A (aP A (dM A A A) (aM 1 A (aP A (cP A (by decide) A A (r:=(st.getD k 0) % 2) (Bit.and_one _ (by omega) (by omega))) (aP A (dF 1 A A A A (aG 0 A)) ?_)))))
 refine eN (i:=0) (n':=(zs.set (((1+n.ins)+(k:Int)).toNat) ((st.getD k 0) % 2)).length) (xs':=(mI (zs.set (((1+n.ins)+(k:Int)).toNat) ((st.getD k 0) % 2)))) A A A A A A A A (by first|omega|(simp only[List.length_set];omega)) List.length_set.symm (fB _ _ _) A (dB (cK (bJ (aP A (dM A A A) (dJ 1 A ?_)))))
 exact cG (k+1) (zs.set (((1+n.ins)+(k:Int)).toNat) ((st.getD k 0) % 2)) ⟨by omega,by rw[hz];exact(iK (by rw[kG n st inp (by omega)];omega) (by rw[kG n st inp (by omega)];omega)).trans (by rw[sK n st inp (by omega)])⟩ (by omega) (cT rfl) (dS rfl)
 refine bR (nG A ?_)
 refine bM (dI ?_)
 refine aO (bF (eP (aP A (cQ 2 A A A) (aP A (aN A A A (aH 1 A A)) (aP A (bC A Tryz.underlying25 A (aE hr.an)) (aU 1 A (bE ?_)))))))
 refine gT (α:=Nat) (β:=List Int) [0,1,2,3,6,7,19,31,32,34,48,49] rfl (fun k zs=>[rI9 3 (.slice (some ⟨g2,0,none⟩) ((List.replicate n.cnt.toNat (0:Int)).length) ((List.replicate n.cnt.toNat (0:Int)).length)) zs,nB9 b1 n]) (fun k zs=>[(50,jI (k:Int))]) (fun k zs=>(k:Int)≤(n.gs.length:Int)∧zs=fillZ n.cnt.toNat (valL n st inp k)) (fun k zs=>(n.gs.length:Int).toNat-k) 0 zs ⟨by omega,by rw[hz,show k=st.length by omega,vR]⟩ (cT rfl) (dS rfl) ?_
 intro k zs hi7
 obtain⟨hk,hz⟩:=hi7
 have hzl:zs.length=n.cnt.toNat:=by rw[hz];exact gL (by rw[gE n st inp k (by omega)];omega)
 have hvl:=gE n st inp k (by omega)
 have hv01:=vF hn hsl inp k (by omega)
 refine cF ?_
 refine bQ A A A A A A (fun h8=>?_) (fun h8=>?_)
 refine bR (nF A (bY (fM (aC (bZ 1 A (aP A (dF 2 A A A A (aE hr.an)) ?_))))))
 refine aP A (eI (us:=[jI ((n.gs.getD k an0).a),jI ((n.gs.getD k an0).b)]) A A A A (aE hr.an) (by omega) A (fC anC 2 (fun _=>A) n.gs an0 (show k<_ by omega) A)) (cR A (bP (z:=.agg #[jI 0,jI 0]) A A) ?_)
 intro b9
 refine aM 1 A (bI (cs':=#[jI ((n.gs.getD k an0).a),jI ((n.gs.getD k an0).b)]) (i:=0) (off:=0) (us:=[jI ((n.gs.getD k an0).a),jI ((n.gs.getD k an0).b)]) A A A A A A A (aA A (aA A bA)) A A A ?_)
 refine bR ?_
 have hak:=hn.an k (by omega)
 obtain⟨⟨hA0,hA1⟩,hC0,hC1⟩:=id hak
 have hg1:zs.getD ((n.gs.getD k an0).a / 2).toNat 0=(valL n st inp k).getD ((n.gs.getD k an0).a / 2).toNat 0:=by rw[hz];exact jT (by omega)
 have hg2:zs.getD ((n.gs.getD k an0).b / 2).toNat 0=(valL n st inp k).getD ((n.gs.getD k an0).b / 2).toNat 0:=by rw[hz];exact jT (by omega)
 have hA:zs.getD ((n.gs.getD k an0).a / 2).toNat 0=0∨zs.getD ((n.gs.getD k an0).a / 2).toNat 0=1:=by rw[hg1];exact hv01 _ (by omega)
 have hB:zs.getD ((n.gs.getD k an0).b / 2).toNat 0=0∨zs.getD ((n.gs.getD k an0).b / 2).toNat 0=1:=by rw[hg2];exact hv01 _ (by omega)
 have hB1:bitL zs (n.gs.getD k an0).a=bitL (valL n st inp k) (n.gs.getD k an0).a:=by unfold bitL;rw[hg1]
 have hB2:bitL zs (n.gs.getD k an0).b=bitL (valL n st inp k) (n.gs.getD k an0).b:=by unfold bitL;rw[hg2]
 have hP1:bitL zs (n.gs.getD k an0).a=0∨bitL zs (n.gs.getD k an0).a=1:=by rw[hB1];exact jA hv01 hA0 (by omega)
 have hP2:bitL zs (n.gs.getD k an0).b=0∨bitL zs (n.gs.getD k an0).b=1:=by rw[hB2];exact jA hv01 hC0 (by omega)
 refine cJ 15 [[],[],[1],[],[2,3],[],[],[6],[5,7],[],[],[10],[9,11],[8,12],[0,4]] [55,56,57,58,59,60,61,62,63,64,65,66,67,68,69] [.slice (some ⟨g2,0,none⟩) ((List.replicate n.cnt.toNat (0:Int)).length) ((List.replicate n.cnt.toNat (0:Int)).length),.agg #[jI n.ins,n.sv,n.av,n.ov],jI n.fst,jI (k:Int),jI (n.fst+(k:Int)),.slice (some ⟨g2,0,none⟩) ((List.replicate n.cnt.toNat (0:Int)).length) ((List.replicate n.cnt.toNat (0:Int)).length),.pointer (some ⟨b9,0+0,none⟩),jI ((n.gs.getD k an0).a),jI (bitL zs ((n.gs.getD k an0).a)),.slice (some ⟨g2,0,none⟩) ((List.replicate n.cnt.toNat (0:Int)).length) ((List.replicate n.cnt.toNat (0:Int)).length),.pointer (some ⟨b9,0+1,none⟩),jI ((n.gs.getD k an0).b),jI (bitL zs ((n.gs.getD k an0).b)),jI ((bitL zs ((n.gs.getD k an0).a))*(bitL zs ((n.gs.getD k an0).b))),elP (.slice (some ⟨g2,0,none⟩) ((List.replicate n.cnt.toNat (0:Int)).length) ((List.replicate n.cnt.toNat (0:Int)).length)) ((n.fst+(k:Int)).toNat*1)] (by kernel_rfl) A ?_ ?_
 exact⟨bK A (aK A) A,bK A (aF (cs:=[jI n.ins,n.sv,n.av,n.ov]) A A A A A (aD 2 A 0 A)) A,.inl ⟨A,aJ A A (fun w hm=>aY (gH n w (hr.below hm.bel) hn))⟩,bK A (aK A) A,bK A (dM A A A) A,bK A (aK A) A,bK A (cQ 0 A A A) A,bK A (aN A A A (aH 0 A A)) A,.inl ⟨A,aJ A A (fun w hm=>aY (iX zs ((n.gs.getD k an0).a) _ w ((aG 1 A) w hm) (by omega) (by first|assumption|omega) (by omega)))⟩,bK A (aK A) A,bK A (cQ 1 A A A) A,bK A (aN A A A (aH 0 A A)) A,.inl ⟨A,aJ A A (fun w hm=>aY (iX zs ((n.gs.getD k an0).b) _ w ((aG 1 A) w hm) (by omega) (by first|assumption|omega) (by omega)))⟩,bK A (cP A (by decide) A A (r:=(bitL zs ((n.gs.getD k an0).a))*(bitL zs ((n.gs.getD k an0).b))) (Es hP1 hP2)) A,bK A (dF 1 A A A A (aG 1 A)) A,trivial⟩
 simp only[List.drop_succ_cons,List.drop_zero]
 refine eN (i:=1) (n':=(zs.set ((n.fst+(k:Int)).toNat) ((bitL zs ((n.gs.getD k an0).a))*(bitL zs ((n.gs.getD k an0).b)))).length) (xs':=((zs.set ((n.fst+(k:Int)).toNat) ((bitL zs ((n.gs.getD k an0).a))*(bitL zs ((n.gs.getD k an0).b)))).map (Value.int .i64))) A A A A A A A A (by first|omega|(simp only[List.length_set];omega)) List.length_set.symm (fB _ _ _) A (dB (cK (bJ (aP A (dM A A A) (dJ 1 A ?_)))))
 exact cG (k+1) (zs.set ((n.fst+(k:Int)).toNat) ((bitL zs ((n.gs.getD k an0).a))*(bitL zs ((n.gs.getD k an0).b)))) ⟨by omega,by rw[hB1,hB2,hz,show(n.fst+(k:Int)).toNat=(valL n st inp k).length by omega,kF n st inp (by omega)];exact iK rfl (by omega)⟩ (by omega) (cT rfl) (eJ [1,0] rfl)
 refine bR (nG A ?_)
 refine bM (dI ?_)
 refine aO (bF (bD 2 A ?_))
 exact aV (dX (post:=[rI9 3 (.slice (some ⟨g2,0,none⟩) ((List.replicate n.cnt.toNat (0:Int)).length) ((List.replicate n.cnt.toNat (0:Int)).length)) zs]) A A (eJ [0] A) (by rw[hz,show k=n.gs.length by omega,oD (by rw[gE n st inp _ (Nat.le_refl _)];omega)]))
def eqA (a b c d:Int):Bool:=a==c&&b==d
theorem Ah {a b c d:Int}(h:eqA a b c d=true):a=c∧b=d:=by unfold eqA at h;simpa using h
theorem Bit.xor_par (m:Nat):(m ^^^ 1) % 2=(m+1) % 2:=by
  have h:(m ^^^ 1) / 2 ^ 0 % 2=(m / 2 ^ 0 % 2) ^^^ (1 / 2 ^ 0 % 2):=Bit.bit_xor m 1 0
  simp only[Nat.pow_zero,Nat.div_one] at h
  rw[h]
  rcases Nat.mod_two_eq_zero_or_one m with e|e<;>rw[e]<;>simp<;>omega
theorem iB {a:Int}(h0:0≤a) (h1:a<4294967296):bits .xor .i64 a 1=xr a:=by
  rw[Bit.xor_int a 1 h0 h1 (by decide) (by decide)]
  unfold xr
  have h2:(a.toNat ^^^ (1:Int).toNat) / 2=a.toNat / 2:=by
    show(a.toNat ^^^ 1) / 2=a.toNat / 2
    have:=Nat.xor_div_two (a:=a.toNat) (b:=1)
    rw[this];simp
  have h3:(a.toNat ^^^ (1:Int).toNat) % 2=(a.toNat+1) % 2:=by
    show(a.toNat ^^^ 1) % 2=(a.toNat+1) % 2
    have e:=Bit.xor_par a.toNat
    exact e
  split<;>omega
theorem zS {n:Nt}{gs:List An}{v:Value}(h:NtOk (withG n gs)):NtOk { n with av:=v,gs:=gs }:=⟨h.i0,h.i1,h.s1,h.a1,h.o1,h.sq,h.xs,h.an,h.ou⟩
def netP (b:Nat) (n:Nt) (v:Value) (gs:List An):HP:=bigE [boxE b #[.int .i64 n.ins,n.sv,v,n.ov] 28,rS9 67 2 v gs anC]
section
variable {N:Nat}{w0:World}{l:List HP}{env:List (Nat×Value)}{o:Oper}
theorem tQ {x y:Operand}{a b c d:Int}(ho:o.op=.binOp .eql 67 x y 67) (hx:ev env x=some (.agg #[.int .i64 a,.int .i64 b])) (hy:ev env y=some (.agg #[.int .i64 c,.int .i64 d])) :
    RunV Tryz.prog N w0 l env o (.bool (eqA a b c d)):=fun a1 w st=>by
  have hg:(eqGuard .eql 67 x y (.agg #[.int .i64 a,.int .i64 b]) (.agg #[.int .i64 c,.int .i64 d])).run Tryz.prog w=.ok () w:=run_eqGuard_agg _ _ _ _ _ _ _ (by kernel_rfl)
  have h2:(binOp .eql 67 (.agg #[.int .i64 a,.int .i64 b]) (.agg #[.int .i64 c,.int .i64 d])).run Tryz.prog w=.ok (.bool (eqA a b c d)) w:=by
    rw[run_eql_struct,run_equalIn_struct _ _ _ _ _ (by kernel_rfl) (by kernel_rfl)]
    have e0:(Tryz.prog.fieldsOf 67).toList=[(Tryz.prog.fieldsOf 67)[0]!,(Tryz.prog.fieldsOf 67)[1]!]:=by kernel_rfl
    have n0:((Tryz.prog.fieldsOf 67)[0]!).name = "A":=by kernel_rfl
    have n1:((Tryz.prog.fieldsOf 67)[1]!).name = "B":=by kernel_rfl
    have t0:((Tryz.prog.fieldsOf 67)[0]!).type=3:=by kernel_rfl
    have t1:((Tryz.prog.fieldsOf 67)[1]!).type=3:=by kernel_rfl
    have o0:((Tryz.prog.fieldsOf 67)[0]!).offset=0:=by kernel_rfl
    have o1:((Tryz.prog.fieldsOf 67)[1]!).offset=1:=by kernel_rfl
    rw[e0]
    generalize (Tryz.prog.fieldsOf 67)[0]! = f0 at *
    generalize (Tryz.prog.fieldsOf 67)[1]! = f1 at *
    have m0:f0.name≠"_":=by rw[n0];decide
    have m1:f1.name≠"_":=by rw[n1];decide
    have hk:Tryz.prog.plainKey 3=true:=by kernel_rfl
    have q:∀(u v:Int) (w:World),(Op.equalIn 9999 3 (.int .i64 u) (.int .i64 v)).run Tryz.prog w=.ok (u==v) w:=fun u v w=>run_equalIn_int w 9998 3 .i64 .i64 u v Tryz.underlying3
    have pa:∀w:World,(part f0.type #[Value.int .i64 a,.int .i64 b] f0.offset).run Tryz.prog w=.ok (.int .i64 a) w:=fun w=>by rw[t0,o0];exact run_part_plain w hk rfl
    have pb:∀w:World,(part f1.type #[Value.int .i64 a,.int .i64 b] f1.offset).run Tryz.prog w=.ok (.int .i64 b) w:=fun w=>by rw[t1,o1];exact run_part_plain w hk rfl
    have pc:∀w:World,(part f0.type #[Value.int .i64 c,.int .i64 d] f0.offset).run Tryz.prog w=.ok (.int .i64 c) w:=fun w=>by rw[t0,o0];exact run_part_plain w hk rfl
    have pd:∀w:World,(part f1.type #[Value.int .i64 c,.int .i64 d] f1.offset).run Tryz.prog w=.ok (.int .i64 d) w:=fun w=>by rw[t1,o1];exact run_part_plain w hk rfl
    have q0:∀(u v:Int) (w:World),(Op.equalIn 9999 f0.type (.int .i64 u) (.int .i64 v)).run Tryz.prog w=.ok (u==v) w:=by rw[t0];exact q
    have q1:∀(u v:Int) (w:World),(Op.equalIn 9999 f1.type (.int .i64 u) (.int .i64 v)).run Tryz.prog w=.ok (u==v) w:=by rw[t1];exact q
    simp only[Op.eqFields,m0,m1,ne_eq,not_false_eq_true,if_true,Sem.run_bind,pa,pb,pc,pd,q0,q1,Result.andThen_ok,Sem.run_ite,Sem.run_pure]
    unfold eqA
    cases (a==c)<;>cases (b==d)<;>simp
  simp[execOp,ho,st.eval hx,st.eval hy,hg,h2]
end
structure Ext (n:Nt) (g g':List An):Prop where
  ext:∃t,g'=g++t
  ok:NtOk (withG n g')
theorem Ext.refl {n:Nt}{g:List An}(h:NtOk (withG n g)):Ext n g g:=⟨⟨[],by simp⟩,h⟩
theorem Ext.trans {n:Nt}{a b c:List An}(h:Ext n a b) (k:Ext n b c):Ext n a c:=by
  obtain⟨s,rfl⟩:=h.ext
  obtain⟨t,rfl⟩:=k.ext
  exact⟨⟨s++t,by simp⟩,k.ok⟩
theorem Ext.len {n:Nt}{g g':List An}(h:Ext n g g'):g.length≤g'.length:=by obtain⟨t,rfl⟩:=h.ext;rw[List.length_append];omega
theorem Ext.lit {n:Nt}{g g':List An}(h:Ext n g g') {l:Int}(hl:LtOk l (n.fst+g.length)):LtOk l (n.fst+g'.length):=by have:=h.len;exact⟨hl.1,by have:=hl.2;omega⟩
theorem Ext.keep {n:Nt}{g g':List An}(h:Ext n g g') (h0:NtOk (withG n g)) {st:List Int}(hs:st.length=n.ss.length) (inp:Int) {l:Int}(hl:LtOk l (n.fst+g.length)):bitL (valsL (withG n g') st inp) l=bitL (valsL (withG n g) st inp) l:=by
  obtain⟨t,rfl⟩:=h.ext;exact pZ h0 hs inp hl
theorem AddOk.toExt {n:Nt}{g g':List An}{x:Int}{k:Nat}{f:(Int→Int)→Int}(h:AddOk n g g' x k f):Ext n g g':=⟨by obtain⟨t,e,_⟩:=h.ext;exact⟨t,e⟩,h.ok⟩
structure OpR (n:Nt) (g g':List An) (o:Option (List An×Int)) (z:Int):Prop where
  ex:Ext n g g'
  res:(o=some (g',z)∧LtOk z (n.fst+g'.length))∨(o=none∧z<0)
theorem OpR.mk2 {n:Nt}{g:List An}{a b:Int}{r:List An×Int}(h:NtOk (withG n g)) (e:andO n.fst g a b=some r):OpR n g r.1 (andO n.fst g a b) r.2:=⟨(jJ h e).toExt,.inl ⟨e,(jJ h e).lit⟩⟩
section
variable {f:Int}{gs:List An}{a b:Int}
theorem jN (ha:LtOk a (f+gs.length)) (hb:LtOk b (f+gs.length)) (hc:a=0∨b=0∨xr a=b):andO f gs a b=some (gs,0):=by unfold andO;rw[if_pos ⟨ha,hb⟩,if_pos hc]
theorem uY (ha:LtOk a (f+gs.length)) (hb:LtOk b (f+gs.length)) (hn:¬(a=0∨b=0∨xr a=b)) (hc:a=1∨a=b):andO f gs a b=some (gs,b):=by unfold andO;rw[if_pos ⟨ha,hb⟩,if_neg hn,if_pos hc]
theorem Er (ha:LtOk a (f+gs.length)) (hb:LtOk b (f+gs.length)) (hn:¬(a=0∨b=0∨xr a=b)) (h2:¬(a=1∨a=b)) (hc:b=1):andO f gs a b=some (gs,a):=by unfold andO;rw[if_pos ⟨ha,hb⟩,if_neg hn,if_neg h2,if_pos hc]
theorem xF (ha:LtOk a (f+gs.length)) (hb:LtOk b (f+gs.length)) (hn:¬(a=0∨b=0∨xr a=b)) (h2:¬(a=1∨a=b)) (h3:¬b=1) {i:Nat}(hi:i<gs.length) (he:(gs.getD i an0).a=min a b∧(gs.getD i an0).b=max a b)
    (hno:∀q,q<i→¬((gs.getD q an0).a=min a b∧(gs.getD q an0).b=max a b)):andO f gs a b=some (gs,2*(f+i)):=by
  have e:=wU hi he hno
  unfold andO;rw[if_pos ⟨ha,hb⟩,if_neg hn,if_neg h2,if_neg h3,e,if_pos hi]
theorem xE (ha:LtOk a (f+gs.length)) (hb:LtOk b (f+gs.length)) (hn:¬(a=0∨b=0∨xr a=b)) (h2:¬(a=1∨a=b)) (h3:¬b=1)
    (hno:∀q,q<gs.length→¬((gs.getD q an0).a=min a b∧(gs.getD q an0).b=max a b)) (hl:gs.length<300):andO f gs a b=some (gs++[An.mk (min a b) (max a b)],2*(f+gs.length)):=by
  have e:=sX hno
  unfold andO;rw[if_pos ⟨ha,hb⟩,if_neg hn,if_neg h2,if_neg h3,e,if_neg (Nat.lt_irrefl _),if_pos hl]
theorem mJ (ha:LtOk a (f+gs.length)) (hb:LtOk b (f+gs.length)) (hn:¬(a=0∨b=0∨xr a=b)) (h2:¬(a=1∨a=b)) (h3:¬b=1)
    (hno:∀q,q<gs.length→¬((gs.getD q an0).a=min a b∧(gs.getD q an0).b=max a b)) (hl:¬gs.length<300):andO f gs a b=none:=by
  have e:=sX hno
  unfold andO;rw[if_pos ⟨ha,hb⟩,if_neg hn,if_neg h2,if_neg h3,e,if_neg (Nat.lt_irrefl _),if_neg hl]
end
theorem Ee {a b c d:Int}(h:eqA a b c d=false):¬(a=c∧b=d):=fun ⟨e1,e2⟩=>by subst e1 e2;unfold eqA at h;simp at h
theorem OpR.of {n:Nt}{g g':List An}{a b z:Int}(h:NtOk (withG n g)) (e:andO n.fst g a b=some (g',z)):OpR n g g' (andO n.fst g a b) z:=OpR.mk2 (r:=(g',z)) h e
theorem OpR.no {n:Nt}{g:List An}{o:Option (List An×Int)}{z:Int}(h:NtOk (withG n g)) (e:o=none) (hz:z<0):OpR n g g o z:=⟨Ext.refl h,.inr ⟨e,hz⟩⟩
theorem OpR.pos {n:Nt}{g g':List An}{o:Option (List An×Int)}{z:Int}(h:OpR n g g' o z) (hz:0≤z):o=some (g',z)∧LtOk z (n.fst+g'.length):=by rcases h.res with k|k<;>first|exact k|omega
theorem OpR.neg {n:Nt}{g g':List An}{o:Option (List An×Int)}{z:Int}(h:OpR n g g' o z) (hz:z<0):o=none:=by
  rcases h.res with k|k
  · have:=k.2.1;omega
  · exact k.1
theorem OpR.orr {n:Nt}{g g':List An}{a b z:Int}(h:OpR n g g' (andO n.fst g (xr a) (xr b)) z) (hz:0≤z):OpR n g g' (orO n.fst g a b) (xr z):=by
  obtain⟨e,k⟩:=h.pos hz
  exact⟨h.ex,.inl ⟨by unfold orO;rw[e]<;>rfl,iZ k⟩⟩
theorem OpR.orn {n:Nt}{g g':List An}{a b z y:Int}(h:OpR n g g' (andO n.fst g (xr a) (xr b)) z) (hz:z<0) (hy:y<0):OpR n g g' (orO n.fst g a b) y:=⟨h.ex,.inr ⟨by unfold orO;rw[h.neg hz]<;>rfl,hy⟩⟩
def prO (f:Int) (gs:List An) (a b c e:Int):Option (List An×Int):=(andO f gs a b).bind fun r=>(andO f r.1 c e).bind fun s=>orO f s.1 r.2 s.2
theorem OpR.pair1 {n:Nt}{g g1:List An}{a b c e p y:Int}(h:OpR n g g1 (andO n.fst g a b) p) (hp:p<0) (hy:y<0):OpR n g g1 (prO n.fst g a b c e) y:=⟨h.ex,.inr ⟨by unfold prO;rw[h.neg hp]<;>rfl,hy⟩⟩
theorem OpR.pair2 {n:Nt}{g g1 g2:List An}{a b c e p q y:Int}(h:OpR n g g1 (andO n.fst g a b) p) (hp:0≤p) (k:OpR n g1 g2 (andO n.fst g1 c e) q) (hq:q<0) (hy:y<0):OpR n g g2 (prO n.fst g a b c e) y:=
  ⟨h.ex.trans k.ex,.inr ⟨by unfold prO;rw[(h.pos hp).1];dsimp only[Option.bind];rw[k.neg hq]<;>rfl,hy⟩⟩
theorem OpR.pair {n:Nt}{g g1 g2 g3:List An}{a b c e p q z:Int}(h:OpR n g g1 (andO n.fst g a b) p) (hp:0≤p) (k:OpR n g1 g2 (andO n.fst g1 c e) q) (hq:0≤q) (j:OpR n g2 g3 (orO n.fst g2 p q) z):OpR n g g3 (prO n.fst g a b c e) z:=
  ⟨(h.ex.trans k.ex).trans j.ex,by
    have e1:prO n.fst g a b c e=orO n.fst g2 p q:=by unfold prO;rw[(h.pos hp).1];dsimp only[Option.bind];rw[(k.pos hq).1]
    rw[e1];exact j.res⟩
def sqv (s:Sq):Int×Int×List Int:=(s.kd,s.it,s.xs)
def sqk (s:Sq):Int×Int×Nat:=(s.kd,s.it,s.xs.length)
structure NtRest (w:World) (n:Nt):Prop where
  xs:∀s∈n.ss,RdsW w s.iv 1 s.xs.length (s.xs.map (Value.int .i64))
  an:RdsW w n.av 2 n.gs.length (n.gs.flatMap anC)
  ou:RdsW w n.ov 1 n.os.length (n.os.map (Value.int .i64))
theorem NtRest.rds {w:World}{n:Nt}(h:NtRest w n) (hs:RdsW w n.sv 3 n.ss.length (n.ss.flatMap sqC)):RdsNt w n:=⟨hs,h.xs,h.an,h.ou⟩
def RdsSqs (w:World) (ss:List Sq):Prop:=∀s∈ss,RdsW w s.iv 1 s.xs.length (s.xs.map (Value.int .i64))
theorem RdsSqs.nil (w:World):RdsSqs w []:=fun s hs=>by cases hs
theorem RdsSqs.at {w:World}{ss:List Sq}(h:RdsSqs w ss) {k:Nat}(hk:k<ss.length):RdsW w (ss.getD k sq0).iv 1 (ss.getD k sq0).xs.length ((ss.getD k sq0).xs.map (Value.int .i64)):=h _ (bS hk)
theorem RdsSqs.app {w:World}{ss:List Sq}{s:Sq}(h:RdsSqs w ss) (hs:RdsW w s.iv 1 s.xs.length (s.xs.map (Value.int .i64))):RdsSqs w (ss++[s]):=fun r hr=>by
  rcases List.mem_append.1 hr with hr|hr
  · exact h r hr
  · rw[List.mem_singleton] at hr;subst hr;exact hs
theorem RdsSqs.set {w:World}{ss:List Sq}{k:Nat}{s:Sq}(h:RdsSqs w ss) (hs:RdsW w s.iv 1 s.xs.length (s.xs.map (Value.int .i64))):RdsSqs w (ss.set k s):=fun r hr=>by
  rcases List.mem_or_eq_of_mem_set hr with hr|rfl
  · exact h r hr
  · exact hs
theorem tL {ss zs:List Sq}(h:zs.map sqv=ss.map sqv):zs.length=ss.length:=by simpa using congrArg List.length h
theorem tM {ss zs:List Sq}(h:zs.map sqk=ss.map sqk):zs.length=ss.length:=by simpa using congrArg List.length h
theorem uD {α β:Type}{f:α→β}{xs ys:List α}{d:α}(h:xs.map f=ys.map f) {k:Nat}(hk:k<ys.length):f (xs.getD k d)=f (ys.getD k d):=by
  have hl:xs.length=ys.length:=by simpa using congrArg List.length h
  have h1:(xs.map f)[k]? = (ys.map f)[k]?:=by rw[h]
  rw[List.getElem?_map,List.getElem?_map,List.getElem?_eq_getElem (by omega),List.getElem?_eq_getElem hk] at h1
  rw[List.getD_eq_getElem?_getD,List.getD_eq_getElem?_getD,List.getElem?_eq_getElem (by omega),List.getElem?_eq_getElem hk]
  simpa using h1
theorem qS {α β:Type}{f:α→β}{xs ys:List α}(h:xs.map f=ys.map f) {s:α}(hs:s∈xs):∃r∈ys,f r=f s:=by
  have h1:f s∈ys.map f:=h▸List.mem_map.2 ⟨s,hs,rfl⟩
  exact List.mem_map.1 h1
def mpL (tos:List Int) (l:Int):Int:=if l % 2=0 then tos.getD (l / 2).toNat 0 else xr (tos.getD (l / 2).toNat 0)
theorem lD {tos:List Int}{l:Int}(h0:0≤tos.getD (l / 2).toNat 0) (h1:tos.getD (l / 2).toNat 0<4294967296):bits .xor .i64 (tos.getD (l / 2).toNat 0) (l % 2)=mpL tos l:=by
  unfold mpL
  rcases(show l % 2=0∨l % 2=1 by omega) with e|e
  · rw [e, if_pos rfl]
    have hz:∀a:Int,0≤a→a<4294967296→bits .xor .i64 a 0=a:=fun a h0 h1=>by
      have:=Bit.xor_int a 0 h0 (by omega) (by omega) (by omega)
      rw[this];simp;omega
    exact hz _ h0 h1
  · rw[e,if_neg (by decide)];exact iB h0 h1
def MapOk (tos:List Int) (c m:Int):Prop:=(tos.length:Int)=c∧∀k,k<tos.length→LtOk (tos.getD k 0) m
theorem MapOk.lit {tos:List Int}{c m:Int}(h:MapOk tos c m) {l:Int}(hl:LtOk l c):LtOk (tos.getD (l / 2).toNat 0) m∧LtOk (mpL tos l) m:=by
  have h1:=h.1
  unfold LtOk at hl
  have h2:=h.2 (l / 2).toNat (by omega)
  refine⟨h2,?_⟩
  unfold mpL;split
  · exact h2
  · exact iZ h2
theorem MapOk.up {tos:List Int}{c m m':Int}(h:MapOk tos c m) (hm:m≤m'):MapOk tos c m':=⟨h.1,fun k hk=>⟨(h.2 k hk).1,by have:=(h.2 k hk).2;omega⟩⟩
theorem MapOk.app {tos:List Int}{c m x:Int}(h:MapOk tos c m) (hx:LtOk x m):MapOk (tos++[x]) (c+1) m:=⟨by rw[List.length_append,List.length_singleton];have:=h.1;omega,fun k hk=>by
  rw[List.length_append,List.length_singleton] at hk
  by_cases c:k<tos.length
  · rw[fZ c];exact h.2 k c
  · rw[fK (by omega),show k-tos.length=0 by omega];exact hx⟩
def mpS (tos lits:List Int):List Int:=lits.map (mpL tos)
theorem qR {tos:List Int}{c m:Int}(h:MapOk tos c m) {lits:List Int}(hl:∀x∈lits,LtOk x c):∀x∈mpS tos lits,LtOk x m:=fun x hx=>by
  obtain⟨l,h1,rfl⟩:=List.mem_map.1 hx
  exact(h.lit (hl l h1)).2
def evs2 (k:Nat):List Int:=(List.range k).map fun i:Nat=>2*(i:Int)
theorem oV (k:Nat):evs2 k++[2*(k:Int)]=evs2 (k+1):=by unfold evs2;rw[List.range_succ,List.map_append];rfl
theorem lS (k:Nat):(evs2 k).length=k:=by simp[evs2]
theorem mE {k:Nat}{m:Int}(h:(k:Int)≤m):MapOk (evs2 k) k m:=⟨by rw[lS],fun j hj=>by
  rw[lS] at hj
  have e:(evs2 k).getD j 0=2*(j:Int):=by
    unfold evs2
    rw[List.getD_eq_getElem?_getD,List.getElem?_map,List.getElem?_range hj];rfl
  rw[e];unfold LtOk;omega⟩
structure Skel (n n2:Nt):Prop where
  ins:n2.ins=n.ins
  ss:n2.ss.map sqk=n.ss.map sqk
theorem Skel.fst {n n2:Nt}(h:Skel n n2):n2.fst=n.fst:=by show 1+n2.ins+(n2.ss.length:Int)=1+n.ins+n.ss.length;rw[h.ins,tM h.ss]
theorem Skel.len {n n2:Nt}(h:Skel n n2):n2.ss.length=n.ss.length:=tM h.ss
theorem Skel.sq {n n2:Nt}(h:Skel n n2) (hn:∀s∈n.ss,SqOk s):∀s∈n2.ss,SqOk s:=fun s hs=>by
  obtain⟨r,hr,he⟩:=qS h.ss hs
  simp only[sqk,Prod.mk.injEq] at he
  exact⟨by rw[←he.1,←he.2.1,←he.2.2];exact(hn r hr).kind⟩
theorem Skel.trans {a b c:Nt}(h:Skel a b) (h':Skel b c):Skel a c:=⟨h'.ins.trans h.ins,h'.ss.trans h.ss⟩
theorem kQ {zs ss:List Sq}(h:zs.map sqv=ss.map sqv):zs.map sqk=ss.map sqk:=by
  have e:sqk=(fun p:Int×Int×List Int=>(p.1,p.2.1,p.2.2.length)) ∘ sqv:=rfl
  rw[e,←List.map_map,←List.map_map,h]
structure Grew (n n2:Nt) (x:Int):Prop where
  sk:Skel n n2
  ok:NtOk n2
  l0:n.gs.length≤n2.gs.length
  l1:n2.gs.length≤n.gs.length+1
  lit:LtOk x n2.cnt
theorem Grew.cnt {n n2:Nt}{x:Int}(h:Grew n n2 x):n.cnt≤n2.cnt:=by show n.fst+(n.gs.length:Int)≤n2.fst+n2.gs.length;have:=h.l0;rw[h.sk.fst];omega
theorem kZ {α:Type}(f:α→List Value) (xs:List α) (h:∀r u,u∈f r→u.oneCell'=true):∀q∈xs.flatMap f,q.oneCell'=true:=fun q hq=>by
  obtain⟨r, -,h2⟩:=List.mem_flatMap.1 hq
  exact h r q h2
structure CopyOf (n n2:Nt):Prop where
  ins:n2.ins=n.ins
  gs:n2.gs=n.gs
  os:n2.os=n.os
  ss:n2.ss.map sqv=n.ss.map sqv
theorem CopyOf.sk {n n2:Nt}(h:CopyOf n n2):Skel n n2:=⟨h.ins,kQ h.ss⟩
theorem CopyOf.cnt {n n2:Nt}(h:CopyOf n n2):n2.cnt=n.cnt:=by show n2.fst+(n2.gs.length:Int)=n.fst+n.gs.length;rw[h.sk.fst,h.gs]
theorem CopyOf.ok {n n2:Nt}(h:CopyOf n n2) (hn:NtOk n):NtOk n2:=
  ⟨by rw[h.ins];exact hn.i0,by rw[h.ins];exact hn.i1,by rw[h.sk.len];exact hn.s1,by rw[h.gs];exact hn.a1,by rw[h.os];exact hn.o1,h.sk.sq hn.sq,fun s hs=>by
    obtain⟨r,hr,he⟩:=qS h.ss hs
    simp only[sqv,Prod.mk.injEq] at he
    rw[←he.2.2,h.cnt];exact hn.xs r hr,by rw[h.gs,h.sk.fst];exact hn.an,by rw[h.os,h.cnt];exact hn.ou⟩
theorem CopyOf.same {n n2:Nt}(h:CopyOf n n2) (hn:NtOk n) {x:Int}(hx:LtOk x n.cnt):Grew n n2 x:=⟨h.sk,h.ok hn,by rw[h.gs];exact Nat.le_refl _,by rw[h.gs];omega,by rw[h.cnt];exact hx⟩
theorem NtOk.add {n:Nt}(hn:NtOk n) {a b:Int}(ha:LtOk a n.cnt) (hb:LtOk b n.cnt) (hl:n.gs.length<300) (v:Value):NtOk { n with av:=v,gs:=n.gs++[An.mk a b] }:=by
  have hc:({ n with av:=v,gs:=n.gs++[An.mk a b] }:Nt).cnt=n.cnt+1:=by show 1+n.ins+(n.ss.length:Int)+((n.gs++[An.mk a b]).length:Int)=1+n.ins+n.ss.length+n.gs.length+1;rw[List.length_append,List.length_singleton];omega
  have up:∀x,LtOk x n.cnt→LtOk x (n.cnt+1):=fun x h=>⟨h.1,by have:=h.2;omega⟩
  refine⟨hn.i0,hn.i1,hn.s1,by show(n.gs++[An.mk a b]).length≤300;rw[List.length_append,List.length_singleton];omega,hn.o1,hn.sq,fun s hs x hx=>by rw[hc];exact up _ (hn.xs s hs x hx),fun k hk=>?_,fun x hx=>by rw[hc];exact up _ (hn.ou x hx)⟩
  show LtOk ((n.gs++[An.mk a b]).getD k an0).a (n.fst+k)∧LtOk ((n.gs++[An.mk a b]).getD k an0).b (n.fst+k)
  have hk':k<n.gs.length+1:=by have:k<(n.gs++[An.mk a b]).length:=hk;rwa [List.length_append,List.length_singleton] at this
  by_cases c:k<n.gs.length
  · rw[fZ c];exact hn.an k c
  · rw[fK (by omega),show k-n.gs.length=0 by omega,show k=n.gs.length by omega];exact⟨ha,hb⟩
theorem CopyOf.put {n n2:Nt}(h:CopyOf n n2) (hn:NtOk n) {a b:Int}(ha:LtOk a n.cnt) (hb:LtOk b n.cnt) (hl:n.gs.length<300) (v:Value):Grew n { n2 with av:=v,gs:=n2.gs++[An.mk (min a b) (if a<b then b else a)] } (2*n.cnt):=by
  have h2:=h.ok hn
  have hm:LtOk (min a b) n.cnt∧LtOk (if a<b then b else a) n.cnt:=by unfold LtOk at *;omega
  refine⟨⟨h.ins,kQ h.ss⟩,h2.add (by rw[h.cnt];exact hm.1) (by rw[h.cnt];exact hm.2) (by rw[h.gs];exact hl) v,?_,?_,?_⟩
  · show n.gs.length≤(n2.gs++_).length;rw[List.length_append,h.gs];omega
  · show(n2.gs++_).length≤n.gs.length+1;rw[List.length_append,List.length_singleton,h.gs];exact Nat.le_refl _
  · have hc:({ n2 with av:=v,gs:=n2.gs++[An.mk (min a b) (if a<b then b else a)] }:Nt).cnt=n.cnt+1:=by
      show n2.fst+((n2.gs++_).length:Int)=n.fst+n.gs.length+1;rw[List.length_append,List.length_singleton,h.gs,h.sk.fst];omega
    rw[hc]
    have hc0:0≤n.cnt:=by have:=hn.i0;show 0≤1+n.ins+(n.ss.length:Int)+n.gs.length;omega
    unfold LtOk;omega
theorem Ao {n:Nt}(hn:NtOk n):1≤n.fst∧n.fst≤33∧n.fst≤n.cnt∧n.cnt≤333∧n.cnt=n.fst+n.gs.length∧n.fst=1+n.ins+n.ss.length:=by
  have:=hn.i0;have:=hn.i1;have:=hn.s1;have:=hn.a1
  have e:n.cnt=n.fst+n.gs.length:=by unfold Nt.cnt Nt.fst;omega
  have e2:n.fst=1+n.ins+n.ss.length:=rfl
  omega
theorem Ez {ss:List Sq}{k:Nat}{s:Sq}(h:sqk s=sqk (ss.getD k sq0)) (hk:k<ss.length):(ss.set k s).map sqk=ss.map sqk:=by
  rw[List.map_set,h]
  have:(ss.map sqk)[k]? = some (sqk (ss.getD k sq0)):=by rw[List.getElem?_map,List.getD_eq_getElem?_getD,List.getElem?_eq_getElem hk];rfl
  exact kB this
open Go.RowKit
theorem nW {a b c:Int}(h1:b≤a) (h2:a≤c) (w:World):Calls Tryz.prog 21 #[.int .i64 a,.int .i64 b,.int .i64 c] w (Ans w (.bool true)):=by
  rw[←wI h1 h2];exact gP (eL _ _ _ w)
theorem jF (xs:List Int) (v:Value) (w:World) (hv:RdsW w v 1 xs.length (xs.map (Value.int .i64))) (hlen:xs.length≤1000000) :
   Calls Tryz.prog 64 #[v] w (Ret w (fun v' post=>post=[rI9 3 v' (xs)])):=by
 refine bN (N:=6) (args:=[v]) Tryz.func64 A A (bD 1 A (cF ?_))
 refine dP A (dH (s:=1) A Tryz.underlying26 A) ?_
 intro g1
 refine aM 1 A (cW (i:=0) (z:=jI 0) (bytes:=8) (n':=xs.length) (xs':=(mI xs)) A A A A Tryz.underlying26 (by kernel_rfl) A A A A (aE hv) (cO _) (by first|omega|(simp;done)|(simp;omega)) (Nat.zero_add _) (List.nil_append _) (fun _=>A) ?_)
 intro v2
 refine aU 1 A ?_
 exact aV (dX (post:=[rI9 3 v2 xs]) A A (dS A) A)
theorem pA (n:Int) (ps:List Int) (v:Value) (l:Int) (w:World) (hv:RdsW w v 1 ps.length (ps.map (Value.int .i64))) (hp:PsOk n ps) (hl:l≠0∧-n≤l∧l≤n) (hn:n≤400) :
   Calls Tryz.prog 86 #[v,.int .i64 l] w (Ans w (.int .i64 (valI ps l))):=by
 have hpl:=hp.1
 have hb1:l<0→-1≤ps.getD (-l-1).toNat 0∧ps.getD (-l-1).toNat 0≤1:=fun h=>hp.2 _ (by omega)
 refine bN (N:=19) (args:=[v,jI l]) Tryz.func86 A A (bD 1 A (aC (aC (bZ 1 A ?_))))
 refine bQ A A A A A A (fun h1=>?_) (fun h1=>?_)
 refine bR (aR A (aC (bZ 2 A (aP A (iG A A (by omega) (by omega)) (aP A (iM A A A) (aP A (dF 1 A A A A (aE hv)) (aP A (rR A A A (aE hv)) (aP A (iG A A (by omega) (by omega)) (aM 1 A (?_))))))))))
 refine bR ?_
 refine aV (aL ?_)
 exact cA A A (by unfold valI;first|rw[if_pos (by omega)]|rw[if_neg (by omega)])
 refine bR (aS A (bY (aC (bZ 2 A (aP A (iM A A A) (aP A (dF 1 A A A A (aE hv)) (aP A (rR A A A (aE hv)) (aM 1 A (?_)))))))))
 refine bR ?_
 exact aV (cA A A (by unfold valI;first|rw[if_pos (by omega)]|rw[if_neg (by omega)]))
structure USeen (xs ps:List Int) (m:Nat) (u:Int):Prop where
  all:∀i,i<m→xs.getD i 0=u∨valI ps (xs.getD i 0) = -1
  one:u≠0→valI ps u=0∧∃i,i<m∧xs.getD i 0=u
theorem Be {xs ps:List Int}{m:Nat}{u:Int}(h:USeen xs ps m u) (hv:valI ps (xs.getD m 0) = -1):USeen xs ps (m+1) u:=
  ⟨fun i hi=>by by_cases e:i=m;(subst e;exact .inr hv);exact h.all i (by omega),fun hu=>⟨(h.one hu).1,by obtain⟨i,hi,e⟩:=(h.one hu).2;exact⟨i,by omega,e⟩⟩⟩
theorem vM {xs ps:List Int}{m:Nat}{u:Int}(h:USeen xs ps m u) (hv:valI ps (xs.getD m 0)=0) (hu:u=0∨u=xs.getD m 0) (hx:∀i,i<m→xs.getD i 0≠0):USeen xs ps (m+1) (xs.getD m 0):=
  ⟨fun i hi=>by
    by_cases e:i=m
    · subst e;exact .inl rfl
    · rcases h.all i (by omega) with h1 | h1
      · rcases hu with h2 | h2
        · exact absurd (h1.trans h2) (hx i (by omega))
        · exact .inl (h1.trans h2)
      · exact .inr h1,fun _=>⟨hv,m,by omega,rfl⟩⟩
theorem pM {xs ps:List Int}{u:Int}{b:Bool}(h:USeen xs ps xs.length u) (hx:∀i,i<xs.length→xs.getD i 0≠0) (hb:b=decide (u=0)):UOk xs ps u b:=by
  subst hb
  refine⟨fun hc=>?_,fun hu=>⟨by simp[hu],(h.one hu).1,by obtain⟨i,hi,e⟩:=(h.one hu).2;exact⟨i,hi,e⟩,h.all⟩,fun hc hu=>?_⟩
  · have hu : u = 0 := by simpa using hc
    refine⟨hu,fun i hi=>?_⟩
    rcases h.all i hi with h1|h1
    · exact absurd (h1.trans hu) (hx i hi)
    · exact h1
  · simp[hu] at hc
theorem tK {xs ps:List Int}{m:Nat}(hm:m<xs.length) (hv:valI ps (xs.getD m 0)≠-1):UOk xs ps 0 false:=
  ⟨(fun h=>by cases h),fun h=>absurd rfl h,fun _ _=>⟨m,hm,hv⟩⟩
theorem oF (n:Int) (xs:List Int) (v:Value) (w:World) (hv:RdsW w v 1 xs.length (xs.map (Value.int .i64))) (hx:LitOk n xs) (hn:0≤n∧n≤400) :
   Calls Tryz.prog 65 #[v,.int .i64 n] w (Ans w (.bool true)):=by
 have hxl:=hx.1
 refine bN (N:=27) (args:=[v,jI n]) Tryz.func65 A A (bD 1 A (aC (aC (bZ 1 A (aP A (bC A Tryz.underlying26 A (aE hv)) ?_)))))
 refine fJ A A A A A A (fun h1=>absurd h1 (by omega)) (fun h1=>?_)
 refine bR (aS A (bY (aC (aC (bZ 1 A (aP A (bC A Tryz.underlying26 A (aE hv)) (dJ 1 A ?_)))))))
 refine bF (bE ?_)
 refine hO (α:=Nat) [0,1,4,9,10,11] A (fun j=>[]) (fun j=>[(12,jI (j:Int))]) (fun j=>j≤xs.length) (fun j=>xs.length-j) 0 (Nat.zero_le _) (cT A) (.slnil) ?_
 intro j hi2
 have hj:=hi2
 refine cF ?_
 refine bQ A A A A A A (fun h3=>?_) (fun h3=>?_)
 refine bR (nF A (bY (fM (cF (aP A (dF 1 A A A A (aE hv)) (aP A (hC A A A (aE hv)) (aM 1 A ?_)))))))
 refine bR (cF ?_)
 have hxj:=hx.2 j (by omega)
 refine aM 1 A (cM A A A A A A (fun h4=>absurd h4 (by omega)) (fun h4=>?_))
 have hxj:=hx.2 j (by omega)
 refine aM 1 A ?_
 have hxj:=hx.2 j (by omega)
 refine aM 1 A ?_
 have hxj:=hx.2 j (by omega)
 refine aM 1 A (aP A (iG A A (by omega) (by omega)) ?_)
 have hxj:=hx.2 j (by omega)
 refine aM 1 A (dA A (aJ A A (fun w hm=>aY (nW (by omega) (by omega) w))) ?_)
 refine aU 2 A (hH A (cK (bJ (aP A (dM A A A) (dJ 1 A ?_)))))
 exact cU (j+1) (by omega) (by omega) (cT A) (.slnil)
 refine bR (nG A ?_)
 refine bM (dI ?_)
 refine aO (bF (bD 1 A ?_))
 exact aV (cA A A A)
theorem mT (n:Int) (rs:List CRow) (v:Value) (w:World) (hr:ClOk n rs) (hv:RdsCl w v rs) :
   Calls Tryz.prog 59 #[.agg #[.int .i64 n,v]] w (Ans w (.bool true)):=by
 have hn0:=hr.n0
 have hn1:=hr.n1
 have hrl:=hr.len
 refine bN (N:=28) (args:=[.agg #[jI n,v]]) Tryz.func59 A A (cF ?_)
 refine cR A (cN A A) ?_
 intro b1
 refine aU 1 A (eP (aP A (cQ 0 A A A) (aP A (aN A A A (aH 0 A A)) ?_)))
 refine dA A (aJ A A (fun w hm=>aY (nW (by omega) (by omega) w))) (aM 2 A (aP A (cQ 1 A A A) (aP A (aN A A A (aH 0 A A)) (aP A (bC A Tryz.underlying33 A (aE hv.row)) ?_))))
 refine fJ A A A A A A (fun h2=>absurd h2 (by omega)) (fun h2=>?_)
 refine aU 1 A (aS A (bY (eP (aP A (cQ 1 A A A) (aP A (aN A A A (aH 0 A A)) (aP A (bC A Tryz.underlying33 A (aE hv.row)) (aM 1 A ?_)))))))
 refine bR (bE ?_)
 refine hO (α:=Nat) [0,1,2,14,16,17] A (fun k=>[boxE b1 #[jI n,v] 53]) (fun k=>[(18,jI (k:Int))]) (fun k=>k≤rs.length) (fun k=>rs.length-k) 0 (Nat.zero_le _) (cT A) (dS A) ?_
 intro k hi3
 have hk:=hi3
 refine cF ?_
 refine bQ A A A A A A (fun h4=>?_) (fun h4=>?_)
 refine bR (nF A (bY (fM (cF (aP A (dF 1 A A A A (aE hv.row)) ?_)))))
 refine aP A (bG (u:=(rs.getD k crow0).v) A A A (aE hv.row) (dG crowC (fun r=>r.v) (fun _=>A) rs crow0 (show k<_ by omega))) (aU 1 A (aC (bZ 1 A (aP A (cQ 0 A A A) (aP A (aN A A A (aH 0 A A)) ?_)))))
 refine dA A (aJ A A (fun w hm=>aY (oF n (rs.getD k crow0).xs _ w ((hv.at (by omega)).below hm.bel) (hr.ok k (by omega)) ⟨hn0,hn1⟩))) (aU 1 A (hH A (cK (bJ (aP A (dM A A A) (dJ 1 A ?_))))))
 exact cU (k+1) (by omega) (by omega) (cT A) (dS A)
 refine bR (nG A ?_)
 refine bM (dI ?_)
 refine aO (bF (bD 1 A ?_))
 exact aV (cA A A A)
abbrev ndA (n:Nt) (k:Int):Int:=(n.gs.getD (k-n.fst).toNat an0).a
abbrev ndB (n:Nt) (k:Int):Int:=(n.gs.getD (k-n.fst).toNat an0).b
abbrev mk (bs:List Bl) (k:Int):Prop:=(bs.getD k.toNat bl0).b=true
theorem kI {n:Nt}(hn:NtOk n) {k:Int}(h0:n.fst≤k) (h1:k<n.cnt):(k-n.fst).toNat<n.gs.length∧0≤n.fst∧0≤ndA n k∧ndA n k<2*k∧0≤ndB n k∧ndB n k<2*k:=by
  have hc:n.cnt=n.fst+n.gs.length:=by unfold Nt.cnt Nt.fst;omega
  have hf:0≤n.fst:=by have:=hn.i0;unfold Nt.fst;omega
  have ha:=hn.an (k-n.fst).toNat (by omega)
  unfold LtOk at ha
  unfold ndA ndB
  omega
inductive RcN (n:Nt):Int→Int→Prop
  | here (k:Int):RcN n k k
  | left {k j:Int}:n.fst≤k→k<n.cnt→RcN n (ndA n k / 2) j→RcN n k j
  | right {k j:Int}:n.fst≤k→k<n.cnt→RcN n (ndB n k / 2) j→RcN n k j
structure MkOk (n:Nt) (node:Int) (bs bs':List Bl):Prop where
  len:bs'.length=bs.length
  mono:∀k:Int,0≤k→mk bs k→mk bs' k
  at_:mk bs' node
  new:∀k:Int,n.fst≤k→k<n.cnt→mk bs' k→mk bs k∨(mk bs' (ndA n k / 2)∧mk bs' (ndB n k / 2))
  lo:∀k:Int,0≤k→mk bs' k→mk bs k∨RcN n node k
theorem lM {bs:List Bl}{j:Nat}{b:Bl}(hj:j<bs.length) (hb:b.b=true) {k:Int}:mk (bs.set j b) k↔k.toNat=j∨mk bs k:=by
  unfold mk
  by_cases e:k.toNat=j
  · rw[e,eR hj];exact⟨fun _=>.inl rfl,fun _=>hb⟩
  · rw [List.getD_eq_getElem?_getD, List.getElem?_set_ne (fun h => e h.symm), ← List.getD_eq_getElem?_getD]
    exact⟨fun h=>.inr h,fun h=>h.resolve_left e⟩
theorem Fn {n:Nt}{node:Int}{bs:List Bl}(h:mk bs node):MkOk n node bs bs:=⟨rfl,fun _ _ h=>h,h,fun k _ _ h=>.inl h,fun k _ h=>.inl h⟩
theorem Fo {n:Nt}{node:Int}{bs:List Bl}{b:Bl}(h0:0≤node) (h1:node.toNat<bs.length) (hf:0≤n.fst) (hl:node<n.fst) (hb:b.b=true):MkOk n node bs (bs.set node.toNat b):=
  ⟨by simp,fun k k0 h=>(lM h1 hb).2 (.inr h),(lM h1 hb).2 (.inl rfl),fun k k0 k1 h=>by
    rcases(lM h1 hb).1 h with h|h
    · omega
    · exact .inl h,fun k k0 h=>by
    rcases(lM h1 hb).1 h with h|h
    · have : k = node := by omega
      subst this;exact .inr (.here _)
    · exact .inl h⟩
theorem mk_and {n:Nt}(hn:NtOk n) {node:Int}{bs b2 b3:List Bl}{b:Bl}(h0:n.fst≤node) (h9:node<n.cnt) (h1:node.toNat<bs.length) (hb:b.b=true) (ha:MkOk n (ndA n node / 2) (bs.set node.toNat b) b2) (hc:MkOk n (ndB n node / 2) b2 b3):MkOk n node bs b3:=by
  obtain⟨o1,o2,o3,o4,o5,o6⟩:=kI hn h0 h9
  have hm:∀k:Int,0≤k→mk (bs.set node.toNat b) k→mk b3 k:=fun k k0 h=>hc.mono k k0 (ha.mono k k0 h)
  refine⟨by rw[hc.len,ha.len];simp,fun k k0 h=>hm k k0 ((lM h1 hb).2 (.inr h)),hm node (by omega) ((lM h1 hb).2 (.inl rfl)),fun k k0 k1 h=>?_,fun k k0 h=>?_⟩
  rotate_left
  · rcases hc.lo k k0 h with h | h
    · rcases ha.lo k k0 h with h | h
      · rcases (lM h1 hb).1 h with h | h
        · have : k = node := by omega
          subst this;exact .inr (.here _)
        · exact .inl h
      · exact .inr (.left h0 h9 h)
    · exact .inr (.right h0 h9 h)
  obtain⟨p1,p2,p3,p4,p5,p6⟩:=kI hn k0 k1
  rcases hc.new k k0 k1 h with h|h
  · rcases ha.new k k0 k1 h with h | h
    · rcases (lM h1 hb).1 h with h | h
      · have : k = node := by omega
        subst this
        exact .inr ⟨hc.mono _ (by omega) ha.at_,hc.at_⟩
      · exact .inl h
    · exact .inr ⟨hc.mono _ (by omega) h.1,hc.mono _ (by omega) h.2⟩
  · exact .inr h
def mkL (bs:List Bl) (k:Nat):List Int:=((List.range k).filter fun i:Nat=>(bs.getD i bl0).b).map fun i:Nat=>(i:Int)
theorem Fp {bs:List Bl}{k:Nat}(h:(bs.getD k bl0).b=true):mkL bs k++[(k:Int)]=mkL bs (k+1):=by
  unfold mkL;rw[List.range_succ,List.filter_append,List.map_append,List.filter_cons_of_pos (p:=fun i:Nat=>(bs.getD i bl0).b) h];rfl
theorem mkL_no {bs:List Bl}{k:Nat}(h:(bs.getD k bl0).b=false):mkL bs k=mkL bs (k+1):=by
  unfold mkL;rw[List.range_succ,List.filter_append,List.map_append,List.filter_cons_of_neg (p:=fun i:Nat=>(bs.getD i bl0).b) (by simpa using h)];simp
theorem zZ (bs:List Bl) (k:Nat):(mkL bs k).length≤k:=by
  unfold mkL;rw[List.length_map];have:=List.length_filter_le (fun i=>(bs.getD i bl0).b) (List.range k);simpa using this
theorem nS {bs:List Bl}{k:Nat}{x:Int}:x∈mkL bs k↔(0≤x∧x<k)∧mk bs x:=by
  unfold mkL mk
  simp only[List.mem_map,List.mem_filter,List.mem_range]
  constructor
  · rintro ⟨i, ⟨h1, h2⟩, rfl⟩
    exact⟨⟨by omega,by omega⟩,by rw[Int.toNat_natCast];exact h2⟩
  · rintro ⟨⟨h1, h2⟩, h3⟩
    exact⟨x.toNat,⟨by omega,h3⟩,by omega⟩
structure ConeOk (n:Nt) (node:Int) (xs:List Int):Prop where
  len:xs.length≤n.cnt.toNat
  rng:∀x∈xs,0≤x∧x<n.cnt
  top:node∈xs
  clo:∀k∈xs,n.fst≤k→ndA n k / 2∈xs∧ndB n k / 2∈xs
  un:∃bs:List Bl,xs=mkL bs n.cnt.toNat∧∀k:Int,0≤k→k<n.cnt→(mk bs k↔RcN n node k)
theorem rcn_mk {n:Nt}(hn:NtOk n) {bs:List Bl}(hc:∀k:Int,n.fst≤k→k<n.cnt→mk bs k→mk bs (ndA n k / 2)∧mk bs (ndB n k / 2)) {m k:Int}(h:RcN n m k):0≤m→m<n.cnt→mk bs m→mk bs k:=by
  induction h with
  | here k=>exact fun _ _ h=>h
  | left h0 h1 _ ih=>
    intro _ _ hm
    obtain⟨p1,p2,p3,p4,p5,p6⟩:=kI hn h0 h1
    exact ih (by omega) (by omega) (hc _ h0 h1 hm).1
  | right h0 h1 _ ih=>
    intro _ _ hm
    obtain⟨p1,p2,p3,p4,p5,p6⟩:=kI hn h0 h1
    exact ih (by omega) (by omega) (hc _ h0 h1 hm).2
theorem ConeOk.same {n:Nt}{node:Int}{xs ys:List Int}(h:ConeOk n node xs) (k:ConeOk n node ys):xs=ys:=by
  obtain⟨bs,rfl,h1⟩:=h.un
  obtain⟨cs,rfl,h2⟩:=k.un
  unfold mkL
  congr 1
  refine List.filter_congr (fun i hi=>?_)
  have hi:=List.mem_range.1 hi
  have e1:(bs.getD i bl0).b=true↔RcN n node (i:Int):=h1 (i:Int) (by omega) (by omega)
  have e2:(cs.getD i bl0).b=true↔RcN n node (i:Int):=h2 (i:Int) (by omega) (by omega)
  exact Bool.eq_iff_iff.2 (e1.trans e2.symm)
theorem Gb {n:Nt}(hn:NtOk n) {node:Int}{bs:List Bl}(h0:0≤node) (h1:node<n.cnt) (hl:bs.length=n.cnt.toNat) (h:MkOk n node (List.replicate n.cnt.toNat bl0) bs):ConeOk n node (mkL bs bs.length):=by
  have hno:∀k:Int,¬mk (List.replicate n.cnt.toNat bl0) k:=fun k hk=>by
    unfold mk at hk
    rw[List.getD_eq_getElem?_getD,List.getElem?_replicate] at hk
    split at hk<;>exact absurd hk (by decide)
  refine⟨by have:=zZ bs bs.length;omega,fun x hx=>by have:=(nS.1 hx).1;omega,nS.2 ⟨by omega,h.at_⟩,fun k hk hf=>?_,⟨bs,by rw[hl],fun k k0 k1=>⟨fun hk=>(h.lo k k0 hk).resolve_left (hno k),fun hk=>rcn_mk hn (fun k h2 h3 hk=>(h.new k h2 h3 hk).resolve_left (hno k)) hk h0 h1 h.at_⟩⟩⟩
  obtain⟨hk1,hk2⟩:=nS.1 hk
  obtain⟨p1,p2,p3,p4,p5,p6⟩:=kI hn hf (by omega)
  have:=(h.new k hf (by omega) hk2).resolve_left (hno k)
  exact⟨nS.2 ⟨by omega,this.1⟩,nS.2 ⟨by omega,this.2⟩⟩
theorem rT (n:Nt) (node:Int) (bs:List Bl) (v:Value) (w0:World) (l:List HP) (w:World) (hm0:Mem w0 (rS9 4 1 v bs blC::l) w) (hr:RdsNt w0 n) (hn:NtOk n) (hnd:0≤node∧node<n.cnt) (hbl:(bs.length:Int)=n.cnt) (IH:∀(m:Int) (bs2:List Bl) (l2:List HP) (w2:World),0≤m→m<node→bs2.length=bs.length→Mem w0 (rS9 4 1 v (bs2) blC::l2) w2→Calls Tryz.prog 82 #[n.agg,.int .i64 m,v] w2 (fun e_ w_=>∃v_ p_,e_=.returned v_∧(∃bs':List Bl,p_=rS9 4 1 v (bs') blC∧MkOk n m bs2 bs')∧Mem w0 (p_::l2) w_)) :
   Calls Tryz.prog 82 #[.agg #[.int .i64 n.ins,n.sv,n.av,n.ov],.int .i64 node,v] w (fun e_ w_=>∃v_ p_,e_=.returned v_∧(fun v_ p_=>∃bs':List Bl,p_=rS9 4 1 v (bs') blC∧MkOk n node bs bs') v_ p_∧Mem w0 (p_::l) w_):=by
 have hi0:=hn.i0
 have hi1:=hn.i1
 have hs1:=hn.s1
 have ha1:=hn.a1
 have ho1:=hn.o1
 have hcnt:n.cnt=1+n.ins+n.ss.length+n.gs.length:=rfl
 have hfst:n.fst=1+n.ins+n.ss.length:=rfl
 refine fW (N:=40) (args:=[.agg #[jI n.ins,n.sv,n.av,n.ov],jI node,v]) Tryz.func82 A A hm0 (cF ?_)
 refine cR A (cN A A) ?_
 intro b1
 refine bR (aC (aC (bZ 2 A (aP A (dF 1 A A A A (aG 1 A)) ?_))))
 refine aP A (bG (u:=.bool ((bs.getD (node.toNat) bl0).b)) A A A (aG 1 A) (dG blC (fun r=>.bool r.b) (fun _=>A) bs bl0 (show node.toNat<_ by omega))) (bW (fun h2=>?_) (fun h2=>?_))
 refine bR (aR A ?_)
 refine aV (aL ?_)
 exact eG (rs:=[]) (vs:=[]) A trivial A (fun w hm=>⟨_,rS9 4 1 v bs blC,A,⟨_,A,Fn (by unfold mk;assumption)⟩,hm.sub (.cons _ (.refl _))⟩)
 refine bR (aS A (bY (aC (bZ 2 A (aP A (dF 1 A A A A (aG 1 A)) ?_)))))
 refine eN (i:=1) (n':=(bs.set (node.toNat) { bs.getD (node.toNat) bl0 with b:=true }).length) A A A A A A A A (by first|omega|(simp only[List.length_set];omega)) List.length_set.symm (fV blC (fun r=>.bool r.b) (fun _=>A) _ ({ bs.getD (node.toNat) bl0 with b:=true }) A) A (bR (aC (bZ 1 A (aP A (aF (cs:=[jI n.ins,n.sv,n.av,n.ov]) A A A A A (aD 0 A 0 A)) ?_))))
 refine dA A (aJ A A (fun w hm=>aY (gH n w (hr.below hm.bel) hn))) (aP A (iM A A A) (aU 1 A (aC (bZ 1 A ?_))))
 refine gO A A A A A A (fun h3=>?_) (fun h3=>?_)
 refine bR (aR A (aC ?_))
 obtain⟨o1,o2,o3,o4,o5,o6⟩:=kI hn (k:=node) (by omega) (by omega)
 unfold ndA at o3 o4
 unfold ndB at o5 o6
 refine eE 2 [0,1] A A (by decide) ?_
 refine gG (l:=(nB9 b1 n::l)) A 10 [0,1,2,3,4,5,6,7,8,9] (List.take 10 _) (List.drop 10 _) [[],[],[1],[],[2,3],[4],[5],[6],[],[0,7,8]] [20,21,22,23,24,25,26,27,28,29] (fun i_ vs_ v_ p_=>match i_ with|0=>v_=.agg #[jI n.ins,n.sv,n.av,n.ov]∧p_=[]|1=>v_=.pointer (some ⟨b1,0+2,none⟩)∧p_=[]|2=>v_=n.av∧p_=[]|3=>v_=jI (node-n.fst)∧p_=[]|4=>v_=elP n.av ((node-n.fst).toNat*2)∧p_=[]|5=>v_=elP n.av ((node-n.fst).toNat*2+0)∧p_=[]|6=>v_=jI ((n.gs.getD ((node-n.fst).toNat) an0).a)∧p_=[]|7=>v_=jI (((n.gs.getD ((node-n.fst).toNat) an0).a) / 2)∧p_=[]|8=>v_=v∧p_=[]|9=>(∃pm_,p_=[pm_]∧(fun v_ p_=>∃bs':List Bl,p_=rS9 4 1 v (bs') blC∧MkOk n (((n.gs.getD ((node-n.fst).toNat) an0).a) / 2) (bs.set (node.toNat) { bs.getD (node.toNat) bl0 with b:=true }) bs') v_ pm_)|_=>True) [[],[],[1],[],[2,3],[4],[5],[6],[],[0,7,8]] [none,none,none,none,none,none,none,none,none,some 10] [rowE 4 1 v ((bs.set (node.toNat) { bs.getD (node.toNat) bl0 with b:=true }).length) ((bs.set (node.toNat) { bs.getD (node.toNat) bl0 with b:=true }).flatMap blC)] [0,1,2,3,4,5,6,7,8,9] 10 (List.take_append_drop 10 _).symm (by kernel_rfl) (by kernel_rfl) (by kernel_rfl) A A ?_ ?_
 refine⟨?_,?_,?_,?_,?_,?_,?_,?_,?_,?_,trivial⟩
 intro vf pf hmu hR
 refine fG [] [] A (aW (aI [3] A) (List.sublist_append_right _ _) ?_)
 exact aT (aF (cs:=[jI n.ins,n.sv,n.av,n.ov]) A A A A A (aD 0 A 0 A))
 intro vf pf hmu hR
 refine fG [] [] A (bH (aI [3] A) ?_)
 exact aT (cQ 2 A A A)
 intro vf pf hmu hR
 have e1:=hR 1 (by decide)
 refine fG [1] [1] A (aW (sk 21 (congrArg some e1.1) (aB _)) (List.sublist_append_right _ _) ?_)
 exact aT (aN A A A (aH 0 A A))
 intro vf pf hmu hR
 refine fG [] [] A (bH (aI [6] A) ?_)
 exact aT (aK A)
 intro vf pf hmu hR
 have e2:=hR 2 (by decide)
 have e3:=hR 3 (by decide)
 refine fG [2,3] [2,3] A (aW (sk 22 (congrArg some e2.1) (sk 23 (congrArg some e3.1) (aB _))) (List.sublist_append_right _ _) ?_)
 exact aT (dF 2 A A A A (aE hr.an))
 intro vf pf hmu hR
 have e4:=hR 4 (by decide)
 refine fG [4] [4] A (aW (sk 24 (congrArg some e4.1) (aB _)) (List.sublist_append_right _ _) ?_)
 exact aT (cC (k0:=0) A A A (aE hr.an) (by omega))
 intro vf pf hmu hR
 have e5:=hR 5 (by decide)
 refine fG [5] [5] A (aW (sk 25 (congrArg some e5.1) (aB _)) (List.sublist_append_right _ _) ?_)
 exact aT (bG (u:=jI ((n.gs.getD ((node-n.fst).toNat) an0).a)) A A A (aE hr.an) ((dE anC 2 (fun _=>A) n.gs an0 (show(node-n.fst).toNat<_ by omega) (by decide)).trans A))
 intro vf pf hmu hR
 have e6:=hR 6 (by decide)
 refine fG [6] [6] A (bH (sk 26 (congrArg some e6.1) (aB _)) ?_)
 exact aT (fF A A A (by refine⟨?_,?_,?_⟩<;>omega))
 intro vf pf hmu hR
 refine fG [] [] A (bH (aI [2] A) ?_)
 exact aT (aK A)
 intro vf pf hmu hR
 have e0:=hR 0 (by decide)
 have e7:=hR 7 (by decide)
 have e8:=hR 8 (by decide)
 refine Or.inl ⟨A,?_⟩
 show RunM _ _ _ (pf 10) (([0,7,8]:List Nat).flatMap pf++_) (envOf _ vf [0,7,8]++_) _ _
 rw[hmu]
 exact cV (sk 20 (congrArg some e0.1) (sk 27 (congrArg some e7.1) (sk 28 (congrArg some e8.1) (aB _)))) (by simp only[e0.2,e7.2,e8.2,fS]<;>rfl) (eY (R:=(fun v_ p_=>∃bs':List Bl,p_=rS9 4 1 v (bs') blC∧MkOk n (((n.gs.getD ((node-n.fst).toNat) an0).a) / 2) (bs.set (node.toNat) { bs.getD (node.toNat) bl0 with b:=true }) bs')) A A (fun L w hX hm=>IH (((n.gs.getD ((node-n.fst).toNat) an0).a) / 2) (bs.set (node.toNat) { bs.getD (node.toNat) bl0 with b:=true }) _ _ (by omega) (by omega) (by first|(rw[List.length_set];done)|(rw[lb2,List.length_set])) hm))
 intro vf pf hmu hR
 have e9:(∃pm_,(pf 9)=[pm_]∧(fun v_ p_=>∃bs':List Bl,p_=rS9 4 1 v (bs') blC∧MkOk n (((n.gs.getD ((node-n.fst).toNat) an0).a) / 2) (bs.set (node.toNat) { bs.getD (node.toNat) bl0 with b:=true }) bs') (vf 9) pm_):=hR 9 (by decide)
 obtain⟨p5,pE9,R6⟩:=e9
 obtain⟨v4,vE9⟩:∃x,vf 9=x:=⟨_,rfl⟩
 try rw[vE9] at R6
 obtain⟨b2,rfl,hb2⟩:=R6
 have lb2:=hb2.len
 have q0:=hR 0 (by decide)
 have q1:=hR 1 (by decide)
 have q2:=hR 2 (by decide)
 have q3:=hR 3 (by decide)
 have q4:=hR 4 (by decide)
 have q5:=hR 5 (by decide)
 have q6:=hR 6 (by decide)
 have q7:=hR 7 (by decide)
 have q8:=hR 8 (by decide)
 refine cE (aI [19,10,6,3,2,1,0] A) (by simp only[pE9,vE9,q0.2,q1.2,q2.2,q3.2,q4.2,q5.2,q6.2,q7.2,q8.2,fS]<;>rfl) ?_
 simp only[List.drop_succ_cons,List.drop_zero]
 refine bR ?_
 refine gG (l:=(nB9 b1 n::l)) A 10 [0,1,2,3,4,5,6,7,8,9] (List.take 10 _) (List.drop 10 _) [[],[],[1],[],[2,3],[4],[5],[6],[],[0,7,8]] [30,31,32,33,34,35,36,37,38,39] (fun i_ vs_ v_ p_=>match i_ with|0=>v_=.agg #[jI n.ins,n.sv,n.av,n.ov]∧p_=[]|1=>v_=.pointer (some ⟨b1,0+2,none⟩)∧p_=[]|2=>v_=n.av∧p_=[]|3=>v_=jI (node-n.fst)∧p_=[]|4=>v_=elP n.av ((node-n.fst).toNat*2)∧p_=[]|5=>v_=elP n.av ((node-n.fst).toNat*2+1)∧p_=[]|6=>v_=jI ((n.gs.getD ((node-n.fst).toNat) an0).b)∧p_=[]|7=>v_=jI (((n.gs.getD ((node-n.fst).toNat) an0).b) / 2)∧p_=[]|8=>v_=v∧p_=[]|9=>(∃pm_,p_=[pm_]∧(fun v_ p_=>∃bs':List Bl,p_=rS9 4 1 v (bs') blC∧MkOk n (((n.gs.getD ((node-n.fst).toNat) an0).b) / 2) b2 bs') v_ pm_)|_=>True) [[],[],[1],[],[2,3],[4],[5],[6],[],[0,7,8]] [none,none,none,none,none,none,none,none,none,some 10] [rS9 4 1 v b2 blC] [0,1,2,3,4,5,6,7,8,9] 10 (List.take_append_drop 10 _).symm (by kernel_rfl) (by kernel_rfl) (by kernel_rfl) A A ?_ ?_
 refine⟨?_,?_,?_,?_,?_,?_,?_,?_,?_,?_,trivial⟩
 intro vf pf hmu hR
 refine fG [] [] A (aW (aI [3] A) (List.sublist_append_right _ _) ?_)
 exact aT (aF (cs:=[jI n.ins,n.sv,n.av,n.ov]) A A A A A (aD 0 A 0 A))
 intro vf pf hmu hR
 refine fG [] [] A (bH (aI [3] A) ?_)
 exact aT (cQ 2 A A A)
 intro vf pf hmu hR
 have e1:=hR 1 (by decide)
 refine fG [1] [1] A (aW (sk 31 (congrArg some e1.1) (aB _)) (List.sublist_append_right _ _) ?_)
 exact aT (aN A A A (aH 0 A A))
 intro vf pf hmu hR
 refine fG [] [] A (bH (aI [6] A) ?_)
 exact aT (aK A)
 intro vf pf hmu hR
 have e2:=hR 2 (by decide)
 have e3:=hR 3 (by decide)
 refine fG [2,3] [2,3] A (aW (sk 32 (congrArg some e2.1) (sk 33 (congrArg some e3.1) (aB _))) (List.sublist_append_right _ _) ?_)
 exact aT (dF 2 A A A A (aE hr.an))
 intro vf pf hmu hR
 have e4:=hR 4 (by decide)
 refine fG [4] [4] A (aW (sk 34 (congrArg some e4.1) (aB _)) (List.sublist_append_right _ _) ?_)
 exact aT (cC (k0:=1) A A A (aE hr.an) (by omega))
 intro vf pf hmu hR
 have e5:=hR 5 (by decide)
 refine fG [5] [5] A (aW (sk 35 (congrArg some e5.1) (aB _)) (List.sublist_append_right _ _) ?_)
 exact aT (bG (u:=jI ((n.gs.getD ((node-n.fst).toNat) an0).b)) A A A (aE hr.an) ((dE anC 2 (fun _=>A) n.gs an0 (show(node-n.fst).toNat<_ by omega) (by decide)).trans A))
 intro vf pf hmu hR
 have e6:=hR 6 (by decide)
 refine fG [6] [6] A (bH (sk 36 (congrArg some e6.1) (aB _)) ?_)
 exact aT (fF A A A (by refine⟨?_,?_,?_⟩<;>omega))
 intro vf pf hmu hR
 refine fG [] [] A (bH (aI [2] A) ?_)
 exact aT (aK A)
 intro vf pf hmu hR
 have e0:=hR 0 (by decide)
 have e7:=hR 7 (by decide)
 have e8:=hR 8 (by decide)
 refine Or.inl ⟨A,?_⟩
 show RunM _ _ _ (pf 10) (([0,7,8]:List Nat).flatMap pf++_) (envOf _ vf [0,7,8]++_) _ _
 rw[hmu]
 exact cV (sk 30 (congrArg some e0.1) (sk 37 (congrArg some e7.1) (sk 38 (congrArg some e8.1) (aB _)))) (by simp only[e0.2,e7.2,e8.2,fS]<;>rfl) (eY (R:=(fun v_ p_=>∃bs':List Bl,p_=rS9 4 1 v (bs') blC∧MkOk n (((n.gs.getD ((node-n.fst).toNat) an0).b) / 2) b2 bs')) A A (fun L w hX hm=>IH (((n.gs.getD ((node-n.fst).toNat) an0).b) / 2) b2 _ _ (by omega) (by omega) (by first|(rw[List.length_set];done)|(rw[lb2,List.length_set])) hm))
 intro vf pf hmu hR
 have e9:(∃pm_,(pf 9)=[pm_]∧(fun v_ p_=>∃bs':List Bl,p_=rS9 4 1 v (bs') blC∧MkOk n (((n.gs.getD ((node-n.fst).toNat) an0).b) / 2) b2 bs') (vf 9) pm_):=hR 9 (by decide)
 obtain⟨p8,pE9,R9⟩:=e9
 obtain⟨v7,vE9⟩:∃x,vf 9=x:=⟨_,rfl⟩
 try rw[vE9] at R9
 obtain⟨b3,rfl,hb3⟩:=R9
 have lb3:=hb3.len
 have q0:=hR 0 (by decide)
 have q1:=hR 1 (by decide)
 have q2:=hR 2 (by decide)
 have q3:=hR 3 (by decide)
 have q4:=hR 4 (by decide)
 have q5:=hR 5 (by decide)
 have q6:=hR 6 (by decide)
 have q7:=hR 7 (by decide)
 have q8:=hR 8 (by decide)
 refine cE (aI [19,10,6,3,2,1,0] A) (by simp only[pE9,vE9,q0.2,q1.2,q2.2,q3.2,q4.2,q5.2,q6.2,q7.2,q8.2,fS]<;>rfl) ?_
 simp only[List.drop_succ_cons,List.drop_zero]
 refine dB (sS ?_)
 exact eG (rs:=[]) (vs:=[]) A trivial A (fun w hm=>⟨_,rS9 4 1 v b3 blC,A,⟨_,A,mk_and hn (by omega) (by omega) (by omega) A hb2 hb3⟩,hm.sub (.cons_cons _ (.cons _ (.refl _)))⟩)
 refine bR (hH A ?_)
 exact sS (eG (rs:=[]) (vs:=[]) A trivial A (fun w hm=>⟨_,rowE 4 1 v ((bs.set (node.toNat) { bs.getD (node.toNat) bl0 with b:=true }).length) ((bs.set (node.toNat) { bs.getD (node.toNat) bl0 with b:=true }).flatMap blC),A,⟨_,A,Fo (by omega) (by omega) (by omega) (by omega) A⟩,hm.sub (.cons _ (.refl _))⟩))
theorem nT (n:Nt) (v:Value) (w0:World) (hr:RdsNt w0 n) (hn:NtOk n):∀(k:Nat) (node:Int) (bs:List Bl) (l:List HP) (w:World),node.toNat<k→0≤node→node<n.cnt→(bs.length:Int)=n.cnt→Mem w0 (rS9 4 1 v (bs) blC::l) w→
    Calls Tryz.prog 82 #[n.agg,.int .i64 node,v] w (fun e_ w_=>∃v_ p_,e_=.returned v_∧(∃bs':List Bl,p_=rS9 4 1 v (bs') blC∧MkOk n node bs bs')∧Mem w0 (p_::l) w_)
  | 0,node,bs,l,w,hk,h0,h1,hl,hm=>absurd hk (by omega)
  | k+1,node,bs,l,w,hk,h0,h1,hl,hm=>rT n node bs v w0 l w hm hr hn ⟨h0,h1⟩ hl (fun m bs2 l2 w2 m0 m1 hb hm2=>nT n v w0 hr hn k m bs2 l2 w2 (by omega) m0 (by omega) (by omega) hm2)
theorem yK (bs:List Bl) (v:Value) (w:World) (hv:RdsW w v 1 bs.length (bs.flatMap blC)) (hl:bs.length≤1000000) :
   Calls Tryz.prog 83 #[v] w (Ret w (fun v' post=>post=[rI9 3 v' (mkL bs bs.length)])):=by
 refine bN (N:=20) (args:=[v]) Tryz.func83 A A (bD 1 A (cF ?_))
 refine jM 3 1 (aU 1 A (aC (aC (bZ 1 A (aP A (bC A Tryz.underlying56 A (aE hv)) (aU 1 A (bE ?_)))))))
 refine iC (α:=Nat) (β:=Value) (γ:=List Int) [0,2,6,7] A (fun k u zs=>[rI9 3 u zs]) (fun k u zs=>[(3,u),(8,jI (k:Int))]) (fun k u zs=>k≤bs.length∧zs=mkL bs k) (fun k u zs=>bs.length-k) 0 _ [] ⟨by omega,A⟩ (cT A) (dS A) ?_
 intro k u zs hi2
 obtain⟨hk,hz⟩:=hi2
 have hzl:zs.length≤k:=by rw[hz];exact zZ _ _
 refine cF ?_
 refine bQ A A A A A A (fun h3=>?_) (fun h3=>?_)
 refine bR (nF A (bY (fM (aC (bZ 1 A (aP A (dF 1 A A A A (aE hv)) ?_))))))
 refine aP A (bG (u:=.bool ((bs.getD k bl0).b)) A A A (aE hv) (dG blC (fun r=>.bool r.b) (fun _=>A) bs bl0 (show k<_ by omega))) (bW (fun h4=>?_) (fun h4=>?_))
 refine aU 2 A (bD 1 A (aR A (bZ 2 A ?_)))
 refine dP A (bB (z:=jI 0) (s:=1) (cs:=(mI [(k:Int)])) A Tryz.underlying26 A (by decide) A (by kernel_rfl) A) ?_
 intro g5
 refine cW (i:=1) (z:=jI 0) (bytes:=8) A A A A Tryz.underlying26 (by kernel_rfl) A A A A (aG 0 A) (cO _) (by first|omega|(simp;done)|(simp;omega)) (cH zs ([(k:Int)])) (dL zs ([(k:Int)])) (fun _=>A) ?_
 intro v6
 refine dJ 1 A (cK (bJ (aP A (dM A A A) (dJ 1 A ?_))))
 exact cI (k+1) v6 (zs++([(k:Int)])) ⟨by omega,by rw[hz];exact Fp (by assumption)⟩ (by omega) (cT rfl) (eJ [1] rfl)
 refine aU 2 A (bD 1 A (hH A (cK ?_)))
 refine bJ (aP A (dM A A A) (dJ 1 A ?_))
 exact cI (k+1) u zs ⟨by omega,by rw[hz];exact mkL_no (by assumption)⟩ (by omega) (cT rfl) (dS rfl)
 refine bR (nG A ?_)
 refine bM (dI ?_)
 refine aO (bF (bD 2 A ?_))
 exact aV (dX (post:=[rI9 3 u zs]) A A (dS A) (by rw[hz,show k=bs.length by omega]))
theorem Eh (n:Nt) (node:Int) (w:World) (hr:RdsNt w n) (hn:NtOk n) (hnd:0≤node∧node<n.cnt) :
   Calls Tryz.prog 56 #[.agg #[.int .i64 n.ins,n.sv,n.av,n.ov],.int .i64 node] w (Ret w (fun v' post=>∃xs:List Int,post=[rI9 3 v' xs]∧ConeOk n node xs)):=by
 have hi0:=hn.i0
 have hi1:=hn.i1
 have hs1:=hn.s1
 have ha1:=hn.a1
 have ho1:=hn.o1
 have hcnt:n.cnt=1+n.ins+n.ss.length+n.gs.length:=rfl
 have hfst:n.fst=1+n.ins+n.ss.length:=rfl
 refine bN (N:=15) (args:=[.agg #[jI n.ins,n.sv,n.av,n.ov],jI node]) Tryz.func56 A A (cF ?_)
 refine cR A (cN A A) ?_
 intro b1
 refine aU 1 A (cF (aP A (aF (cs:=[jI n.ins,n.sv,n.av,n.ov]) A A A A A (aD 0 A 0 A)) ?_))
 refine dA A (aJ A A (fun w hm=>aY (eU n w (hr.below hm.bel) hn))) (dP A (gN (z:=.bool false) (s:=1) (bytes:=1) (n:=(List.replicate n.cnt.toNat bl0).length) (cs:=((List.replicate n.cnt.toNat bl0).flatMap blC)) A Tryz.underlying56 A (by decide) A A (by first|(rw[List.length_replicate];done)|(rw[List.length_replicate];omega)) (by first|(rw[List.length_replicate];done)|(rw[List.length_replicate];omega)) (by rw[List.length_replicate];omega) (jL blC 1 (fun _=>A) bl0 _ A n.cnt.toNat)) ?_)
 intro g2
 refine aU 1 A (cF (aP A (aF (cs:=[jI n.ins,n.sv,n.av,n.ov]) A A A A A (aD 1 A 0 A)) (aM 2 A ?_)))
 refine eH (R:=(fun v_ p_=>∃bs':List Bl,p_=rS9 4 1 (.slice (some ⟨g2,0,none⟩) ((List.replicate n.cnt.toNat bl0).length) ((List.replicate n.cnt.toNat bl0).length)) (bs') blC∧MkOk n node (List.replicate n.cnt.toNat bl0) bs')) 0 A A A A A (fun l' w hm=>nT n _ _ hr hn (node.toNat+1) node (List.replicate n.cnt.toNat bl0) _ _ (by omega) hnd.1 hnd.2 (by rw[List.length_replicate];omega) hm) ?_
 intro v3 p4 R5
 obtain⟨bs,rfl,hmk⟩:=R5
 have hbl:=hmk.len
 rw[List.length_replicate] at hbl
 refine eC (l':=[rS9 4 1 (.slice (some ⟨g2,0,none⟩) ((List.replicate n.cnt.toNat bl0).length) ((List.replicate n.cnt.toNat bl0).length)) bs blC,nB9 b1 n]) A ?_
 refine bR (aC (bZ 1 A ?_))
 refine eB A A A (aJ A A (fun w hm=>yK bs _ w (aG 0 A w hm) (by omega))) ?_
 intro v6 p7 R8
 subst R8
 refine aU 1 A ?_
 exact aV (dX (post:=[rowE 3 1 v6 ((mkL bs bs.length).length) (mI (mkL bs bs.length))]) A A (eJ [0] A) ⟨_,A,Gb hn hnd.1 hnd.2 hbl hmk⟩)
def lvI (l:Int):Int:=if l % 2=1 then -(l / 2+1) else l / 2+1
theorem nE (l:Int) (w:World) (hl:0≤l∧l≤800) :
   Calls Tryz.prog 58 #[.int .i64 l] w (Ans w (.int .i64 (lvI l))):=by
 refine bN (N:=16) (args:=[jI l]) Tryz.func58 A A (bD 1 A (aC (aC (bZ 1 A ?_))))
 refine dA A (aJ A A (fun w hm=>aY (gP (eL _ _ _ w)))) (bW (fun h1=>?_) (fun h1=>absurd ((((eK _ _ _).2 (by omega))).symm.trans h1) (by decide)))
 refine aU 1 A (aS A (bY (aC (aC (bZ 1 A (aP A (xW A A A (by constructor<;>omega)) ?_))))))
 refine cM A A A A A A (fun h2=>?_) (fun h2=>?_)
 refine bR (aR A (aC (bZ 1 A ?_)))
 refine aP A (fF A A A (by refine⟨?_,?_,?_⟩<;>omega)) ?_
 refine aP A (dM A A A) (aP A (iG A A (by omega) (by omega)) (aU 1 A ?_))
 refine aV (aL ?_)
 exact cA A A (congrArg _ (by unfold lvI;first|(rw[if_pos (by omega)];done)|(rw[if_neg (by omega)];done)))
 refine bR (aS A (bY (aC (bZ 1 A ?_))))
 refine aP A (fF A A A (by refine⟨?_,?_,?_⟩<;>omega)) ?_
 refine aP A (dM A A A) (aU 1 A ?_)
 exact aV (cA A A (congrArg _ (by unfold lvI;first|(rw[if_pos (by omega)];done)|(rw[if_neg (by omega)];done))))
def naL (xs:List Int) (k:Nat):List Bl:=(xs.take k).map fun x=>Bl.mk (decide (x=1))
theorem Fl {xs:List Int}{k:Nat}(h:k≤xs.length):(naL xs k).length=k:=by simp[naL];omega
theorem naL_at {xs:List Int}{k:Nat}(h:k<xs.length):((naL xs xs.length).getD k bl0).b=decide (xs.getD k 0=1):=by
  unfold naL;rw[List.take_length,List.getD_eq_getElem?_getD,List.getElem?_map,List.getD_eq_getElem?_getD,List.getElem?_eq_getElem h];rfl
def insI:List Int→Int→List Int
  | [],x=>[x]
  | y::ys,x=>if y<x then y::insI ys x else if y=x then y::ys else x::y::ys
structure AndV (n:Nt) (v:List Int):Prop where
  b01:B01 v
  len:(v.length:Int)=n.cnt
  at_:∀k,k<n.gs.length→v.getD (n.fst+k).toNat 0=bitL v (n.gs.getD k an0).a*bitL v (n.gs.getD k an0).b
theorem nI {n:Nt}(h:NtOk n) {st:List Int}(hs:st.length=n.ss.length) (inp:Int):AndV n (valsL n st inp):=by
  have hl:=gE n st inp n.gs.length (Nat.le_refl _)
  have hi:=h.i0
  exact⟨vF h hs inp _ (Nat.le_refl _),by show((valL n st inp n.gs.length).length:Int)=_;unfold Nt.cnt;omega,fun k hk=>tJ h hs inp hk⟩
def wS:List Int→Nat
  | []=>0
  | x::xs=>3 ^ (x / 2).toNat+wS xs
structure CjInv (n:Nt) (node:Int) (xs:List Int):Prop where
  srt:xs.Pairwise (· < ·)
  ne:1≤xs.length
  rng:∀x∈xs,0≤x∧x<2*n.cnt
  sem:∀v,AndV n v→((∀x∈xs,bitL v x=1)↔v.getD node.toNat 0=1)
def clK (n:Nt) (k:Int):List (List Int):=[[-(k+1),lvI (ndA n k)],[-(k+1),lvI (ndB n k)],[k+1, -lvI (ndA n k), -lvI (ndB n k)]]
def ncL (n:Nt) (xs:List Int) (i:Nat):List (List Int):=[[-1]]++((xs.take i).filter (isAndB n)).flatMap (clK n)
theorem zX {n:Nt}{xs:List Int}{i:Nat}(hi:i<xs.length) (h:isAndB n (xs.getD i 0)=true):ncL n xs i++clK n (xs.getD i 0)=ncL n xs (i+1):=by
  unfold ncL;rw[eT 0 hi,List.filter_append,List.flatMap_append,List.append_assoc,List.filter_cons_of_pos h];simp
theorem Dk {n:Nt}{xs:List Int}{i:Nat}(hi:i<xs.length) (h:isAndB n (xs.getD i 0)=false):ncL n xs i=ncL n xs (i+1):=by
  unfold ncL;rw[eT 0 hi,List.filter_append,List.flatMap_append,List.filter_cons_of_neg (by rw[h];decide)];simp
theorem pQ (n:Nt) (xs:List Int):∀i,i≤xs.length→(ncL n xs i).length≤1+3*i
  | 0,_=>by simp[ncL]
  | i+1,h=>by
    have ih:=pQ n xs i (by omega)
    cases hb:isAndB n (xs.getD i 0) with
    | true=>rw[←zX (by omega) hb,List.length_append];simp[clK];omega
    | false=>rw[←Dk (by omega) hb];omega
theorem wB {l m:Int}(h0:0≤l) (h1:l<2*m):lvI l≠0∧-m≤lvI l∧lvI l≤m∧-m≤-lvI l∧-lvI l≤m:=by unfold lvI;split<;>omega
theorem lN {m:Int}{c:List Int}(hl:c.length≤3) (h:∀x∈c,x≠0∧-m≤x∧x≤m):LitOk m c:=⟨by omega,fun i hi=>h _ (bS hi)⟩
theorem clK_ok {n:Nt}(hn:NtOk n) {k:Int}(h:isAndB n k=true):∀c∈clK n k,LitOk n.cnt c:=by
  obtain⟨k0,k1⟩:=gX.1 h
  obtain⟨o1,o2,o3,o4,o5,o6⟩:=kI hn k0 k1
  have ha:=wB o3 (show ndA n k<2*n.cnt by omega)
  have hb:=wB o5 (show ndB n k<2*n.cnt by omega)
  intro c hc
  simp only[clK,List.mem_cons,List.not_mem_nil,or_false] at hc
  rcases hc with rfl|rfl|rfl
  · refine lN (by simp) (fun x hx => ?_)
    simp only[List.mem_cons,List.not_mem_nil,or_false] at hx
    rcases hx with rfl|rfl<;>omega
  · refine lN (by simp) (fun x hx => ?_)
    simp only[List.mem_cons,List.not_mem_nil,or_false] at hx
    rcases hx with rfl|rfl<;>omega
  · refine lN (by simp) (fun x hx => ?_)
    simp only[List.mem_cons,List.not_mem_nil,or_false] at hx
    rcases hx with rfl|rfl|rfl<;>omega
theorem ncL_ok {n:Nt}(hn:NtOk n) {xs:List Int}{i:Nat}{l:Int}(h0:0≤l) (h1:l<2*n.cnt):∀c∈ncL n xs i++[[lvI l]],LitOk n.cnt c:=fun c hc=>by
  have hc1:1≤n.cnt:=by omega
  rcases List.mem_append.1 hc with hc|hc
  · unfold ncL at hc
    rcases List.mem_append.1 hc with hc|hc
    · rw [List.mem_singleton] at hc; subst hc
      exact lN (by simp) (fun x hx=>by rw[List.mem_singleton] at hx;subst hx;omega)
    · obtain ⟨k, hk, hc⟩ := List.mem_flatMap.1 hc
      exact clK_ok hn (List.mem_filter.1 hk).2 c hc
  · rw [List.mem_singleton] at hc; subst hc
    have:=wB h0 h1
    exact lN (by simp) (fun x hx=>by rw[List.mem_singleton] at hx;subst hx;omega)
structure NcOk (n:Nt) (l:Int) (rs:List CRow) (xs:List Int):Prop where
  cone:ConeOk n (l / 2) xs
  rs:rs.map CRow.xs=ncL n xs xs.length++[[lvI l]]
theorem NcOk.cl {n:Nt}(hn:NtOk n) {l:Int}{rs:List CRow}{xs:List Int}(h:NcOk n l rs xs) (h0:0≤l) (h1:l<2*n.cnt):ClOk n.cnt rs:=by
  have hl:=congrArg List.length h.rs
  have hx:=pQ n xs xs.length (Nat.le_refl _)
  have hc:=h.cone.len
  have hcn:n.cnt≤333:=by have:=hn.i1;have:=hn.s1;have:=hn.a1;unfold Nt.cnt;omega
  rw[List.length_map,List.length_append,List.length_singleton] at hl
  refine⟨by omega,by omega,by omega,fun k hk=>?_⟩
  have hm:(rs.getD k crow0).xs∈rs.map CRow.xs:=List.mem_map.2 ⟨_,bS hk,rfl⟩
  rw[h.rs] at hm
  exact ncL_ok hn h0 h1 _ hm
theorem wZ (bs:List Bl) (rs:List CRow):cnfB bs rs=(rs.map CRow.xs).all (clB bs):=by unfold cnfB;rw[List.all_map];rfl
theorem kW {v:List Int}(h:B01 v) {l:Int}(h0:0≤l) (h1:l<2*v.length):litB (naL v v.length) (lvI l)=decide (bitL v l=1)∧litB (naL v v.length) (-lvI l) = !decide (bitL v l=1):=by
  have hk:(l / 2).toNat<v.length:=by omega
  have hb:=h (l / 2).toNat hk
  have ha:=naL_at hk
  unfold lvI bitL litB
  by_cases e:l % 2=1
  · rw [if_pos e, if_neg (show ¬ l % 2 = 0 by omega), if_neg (show ¬ 0 < -(l / 2 + 1) by omega), if_pos (show 0 < - -(l / 2 + 1) by omega), show (- -(l / 2 + 1) - 1) = l / 2 by omega, ha]
    rcases hb with e2|e2<;>rw[e2]<;>decide
  · rw [if_neg e, if_pos (show l % 2 = 0 by omega), if_pos (show 0 < l / 2 + 1 by omega), if_neg (show ¬ 0 < -(l / 2 + 1) by omega), show (- -(l / 2 + 1) - 1) = l / 2 by omega, show (l / 2 + 1 - 1) = l / 2 by omega, ha]
    rcases hb with e2|e2<;>rw[e2]<;>decide
theorem pT {v:List Int}(h:B01 v) {k:Int}(h0:0≤k) (h1:k<v.length):litB (naL v v.length) (k+1)=decide (v.getD k.toNat 0=1)∧litB (naL v v.length) (-(k+1)) = !decide (v.getD k.toNat 0=1):=by
  have h2:=kW h (l:=2*k) (by omega) (by omega)
  have e:lvI (2*k)=k+1:=by unfold lvI;rw[if_neg (by omega)];omega
  have e2:bitL v (2*k)=v.getD k.toNat 0:=by unfold bitL;rw[if_pos (by omega),show 2*k / 2=k by omega]
  rw[e,e2] at h2
  exact h2
theorem Ek {n:Nt}(hn:NtOk n) {v:List Int}(hv:AndV n v) {k:Int}(h:isAndB n k=true):(clK n k).all (clB (naL v v.length))=true:=by
  obtain⟨k0,k1⟩:=gX.1 h
  obtain⟨o1,o2,o3,o4,o5,o6⟩:=kI hn k0 k1
  have hl:=hv.len
  have ha:=kW hv.b01 o3 (by omega)
  have hb:=kW hv.b01 o5 (by omega)
  have hk:=pT hv.b01 (k:=k) (by omega) (by omega)
  have hat:=hv.at_ (k-n.fst).toNat o1
  rw[show(n.fst+((k-n.fst).toNat:Nat)).toNat=k.toNat by omega] at hat
  have b1:=jA hv.b01 o3 (show ndA n k<2*v.length by omega)
  have b2:=jA hv.b01 o5 (show ndB n k<2*v.length by omega)
  have hat2:v.getD k.toNat 0=bitL v (ndA n k)*bitL v (ndB n k):=hat
  unfold clK
  simp only[List.all_cons,List.all_nil,Bool.and_true]
  unfold clB
  simp only[List.any_cons,List.any_nil,Bool.or_false]
  rw[ha.1,ha.2,hb.1,hb.2,hk.1,hk.2,hat2]
  rcases b1 with e|e<;>rcases b2 with e'|e'<;>rw[e,e']<;>decide
theorem Fk {n:Nt}(hn:NtOk n) {v:List Int}(hv:AndV n v) (hz:v.getD 0 0=0) {l:Int}{rs:List CRow}{xs:List Int}(h:NcOk n l rs xs) (h0:0≤l) (h1:l<2*n.cnt):cnfB (naL v v.length) rs=decide (bitL v l=1):=by
  have hl:=hv.len
  have hb:=kW hv.b01 h0 (by omega)
  have hk:=pT hv.b01 (k:=0) (by omega) (by omega)
  rw[wZ,h.rs,List.all_append]
  have e1:(ncL n xs xs.length).all (clB (naL v v.length))=true:=by
    unfold ncL
    rw[List.all_append,Bool.and_eq_true]
    refine⟨?_,?_⟩
    · simp only [List.all_cons, List.all_nil, Bool.and_true]
      unfold clB
      simp only[List.any_cons,List.any_nil,Bool.or_false]
      have:=hk.2
      rw[show(-(0+1):Int) = -1 by decide] at this
      rw[this]
      show(!decide (v.getD 0 0=1))=true
      rw[hz];decide
    · rw [List.all_eq_true]
      intro c hc
      obtain⟨k,hk2,hc⟩:=List.mem_flatMap.1 hc
      exact List.all_eq_true.1 (Ek hn hv (List.mem_filter.1 hk2).2) c hc
  rw[e1,Bool.true_and]
  simp only[List.all_cons,List.all_nil,Bool.and_true]
  unfold clB
  simp only[List.any_cons,List.any_nil,Bool.or_false]
  exact hb.1
theorem yY {w0:World}{ps l:List HP}{p q r:HP}:Conv w0 (bigE ps::p::q::r::l) (bigE (ps++[p,q,r])::l):=fun w hm=>by
  have h1:Mem w0 (ps++(p::q::r::l)) w:=hm.unbig
  have h2:Mem w0 ((ps++[p,q,r])++l) w:=by simpa using h1
  exact h2.big
theorem rK (n:Nt) (lit:Int) (w:World) (hr:RdsNt w n) (hn:NtOk n) (hlt:0≤lit∧lit<2*n.cnt) :
   Calls Tryz.prog 22 #[.agg #[.int .i64 n.ins,n.sv,n.av,n.ov],.int .i64 lit] w (Ret w (fun v' post=>∃(cv:Value) (rs:List CRow) (xs:List Int),v'=.tuple #[.agg #[.int .i64 n.cnt,cv],.bool true]∧post=[clE cv rs]∧cv.oneCell'=true∧NcOk n lit rs xs)):=by
 have hi0:=hn.i0
 have hi1:=hn.i1
 have hs1:=hn.s1
 have ha1:=hn.a1
 have ho1:=hn.o1
 have hcnt:n.cnt=1+n.ins+n.ss.length+n.gs.length:=rfl
 have hfst:n.fst=1+n.ins+n.ss.length:=rfl
 refine bN (N:=89) (args:=[.agg #[jI n.ins,n.sv,n.av,n.ov],jI lit]) Tryz.func22 A A (cF ?_)
 refine cR A (cN A A) ?_
 intro b1
 refine cR A (bP (z:=.agg #[jI 0,.slice none 0 0]) A A) ?_
 intro b2
 refine aU 1 A (eP (aP A (aF (cs:=[jI n.ins,n.sv,n.av,n.ov]) A A A A A (aD 1 A 0 A)) ?_))
 refine dA A (aJ A A (fun w hm=>aY (mQ n w (hr.below hm.bel) hn))) (aM 3 A (aP A (aF (cs:=[jI n.ins,n.sv,n.av,n.ov]) A A A A A (aD 1 A 0 A)) ?_))
 refine dA A (aJ A A (fun w hm=>aY (eU n w (hr.below hm.bel) hn))) (aP A (fO A A A (by constructor<;>omega)) (aP A (iM A A A) ?_))
 refine dA A (aJ A A (fun w hm=>aY (gP (eL _ _ _ w)))) (bW (fun h3=>?_) (fun h3=>absurd ((((eK _ _ _).2 (by omega))).symm.trans h3) (by decide)))
 refine aU 2 A (aS A (bY (cF (aP A (aF (cs:=[jI n.ins,n.sv,n.av,n.ov]) A A A A A (aD 1 A 0 A)) ?_))))
 refine dA A (aJ A A (fun w hm=>aY (eU n w (hr.below hm.bel) hn))) (dP A (bB (z:=jI 0) (s:=1) (cs:=(mI [-1])) A Tryz.underlying26 A (by decide) A (by kernel_rfl) A) ?_)
 intro g4
 refine dP A (bB (z:=.slice none 0 0) (s:=1) (cs:=[.slice (some ⟨g4,0,none⟩) 1 1]) A Tryz.underlying33 A (by decide) A (by kernel_rfl) A) ?_
 intro g5
 refine aP A (dQ (cs:=#[jI n.cnt,.slice (some ⟨g5,0,none⟩) 1 1]) A A A) (cR A (bP (z:=.agg #[jI 0,.slice none 0 0]) A A) ?_)
 intro b6
 refine bI (cs':=#[jI n.cnt,.slice (some ⟨g5,0,none⟩) 1 1]) (i:=0) (off:=0) (us:=[jI n.cnt,.slice (some ⟨g5,0,none⟩) 1 1]) A A A A A A A (aA A (aA A bA)) A A A (bR (eP (aP A (aF (cs:=[jI n.ins,n.sv,n.av,n.ov]) A A A A A (aD 4 A 0 A)) (aM 1 A ?_))))
 refine aP A (fF A A A (by refine⟨?_,?_,?_⟩<;>omega)) ?_
 refine eB A A A (aJ A A (fun w hm=>Eh n (lit / 2) w (hr.below hm.bel) hn (by omega))) ?_
 intro v7 p8 R9
 obtain⟨xs,rfl,hco⟩:=R9
 have hxl:=hco.len
 refine aP A (bC A Tryz.underlying26 A (aG 0 A)) (aU 1 A (bE ?_))
 refine eE 6 [5,4,1,0,2,3] A A (by decide) ?_
 refine fE [bigE (([CRow.mk (.slice (some ⟨g4,0,none⟩) 1 1) [-1]]).map cPart),rowE 26 1 (.slice (some ⟨g5,0,none⟩) 1 1) (([CRow.mk (.slice (some ⟨g4,0,none⟩) 1 1) [-1]]).length) (([CRow.mk (.slice (some ⟨g4,0,none⟩) 1 1) [-1]]).flatMap crowC),rI9 3 v7 xs,boxE b6 #[jI n.cnt,.slice (some ⟨g5,0,none⟩) 1 1] 53,boxE b2 #[jI 0,.slice none 0 0] 53,nB9 b1 n] (fun w hm=>Mem.big (ps:=[rowE 3 1 (.slice (some ⟨g4,0,none⟩) 1 1) 1 (mI [-1])]) hm) ?_
 refine iC (α:=Nat) (β:=Value) (γ:=List CRow) [0,1,2,4,5,6,24,34,35] A (fun i u rs=>[bigE (rs.map cPart),rS9 26 1 u rs crowC,rI9 3 v7 xs,boxE b6 #[jI n.cnt,u] 53,boxE b2 #[jI 0,.slice none 0 0] 53,nB9 b1 n]) (fun i u rs=>[(36,jI (i:Int))]) (fun i u rs=>i≤xs.length∧rs.map CRow.xs=ncL n xs i) (fun i u rs=>xs.length-i) 0 _ [CRow.mk _ [-1]] ⟨by omega,A⟩ (cT A) (dS A) ?_
 intro i u rs hi10
 obtain⟨hi,hrs⟩:=hi10
 have hrl:rs.length≤1+3*i:=by have:=pQ n xs i hi;rw[←hrs,List.length_map] at this;exact this
 refine cF ?_
 refine bQ A A A A A A (fun h11=>?_) (fun h11=>?_)
 refine bR (nF A (bY (fM (cF (aP A (dF 1 A A A A (aG 2 A)) (aP A (hC A A A (aG 2 A)) (aM 1 A ?_)))))))
 refine bR (eP (aP A (aF (cs:=[jI n.ins,n.sv,n.av,n.ov]) A A A A A (aD 5 A 0 A)) (aM 1 A ?_)))
 refine dA A (aJ A A (fun w hm=>aY (Bo n (xs.getD i 0) w (hr.below hm.bel) hn))) (bW (fun h12=>?_) (fun h12=>?_))
 refine aU 1 A (aS A (bY (aC ?_)))
 obtain⟨hk0,hk1⟩:=gX.1 (show isAndB n (xs.getD i 0)=true by assumption)
 obtain⟨o1,o2,o3,o4,o5,o6⟩:=kI hn hk0 hk1
 unfold ndA at o3 o4
 unfold ndB at o5 o6
 have hla:=wB (m:=n.cnt) o3 (by omega)
 have hlb:=wB (m:=n.cnt) o5 (by omega)
 refine eV A 9 [0,1,2,3,4,5,6,7,8] (List.take 9 _) (List.drop 9 _) [[],[0],[],[],[3],[2,4],[1,5],[6],[]] [44,45,46,47,48,49,50,51,9] (fun i_ vs_ v_ p_=>match i_ with|0=>v_=.pointer (some ⟨b1,0+2,none⟩)∧p_=[]|1=>v_=n.av∧p_=[]|2=>v_=jI (xs.getD i 0)∧p_=[]|3=>v_=.agg #[jI n.ins,n.sv,n.av,n.ov]∧p_=[]|4=>v_=jI n.fst∧p_=[]|5=>v_=jI ((xs.getD i 0)-n.fst)∧p_=[]|6=>v_=elP n.av (((xs.getD i 0)-n.fst).toNat*2)∧p_=[]|7=>v_=.agg #[jI ((n.gs.getD (((xs.getD i 0)-n.fst).toNat) an0).a),jI ((n.gs.getD (((xs.getD i 0)-n.fst).toNat) an0).b)]∧p_=[]|8=>IsBox #[jI 0,jI 0] 67 v_ p_|_=>True) (List.take_append_drop 9 _).symm (by kernel_rfl) (by kernel_rfl) A A ?_ ?_
 refine⟨?_,?_,?_,?_,?_,?_,?_,?_,?_,trivial⟩
 intro vf pf hR
 exact fX A (aI [2] A) (aT (cQ 2 A A A))
 intro vf pf hR
 have e0:=hR 0 (by decide)
 exact eZ A (sk 44 (congrArg some e0.1) (aB _)) (aT (aN A A A (aH 5 A A)))
 intro vf pf hR
 exact fX A (aI [8] A) (aT (aK A))
 intro vf pf hR
 exact eZ A (aI [2] A) (aT (aF (cs:=[jI n.ins,n.sv,n.av,n.ov]) A A A A A (aD 5 A 0 A)))
 intro vf pf hR
 have e3:=hR 3 (by decide)
 exact eZ A (sk 47 (congrArg some e3.1) (aB _)) (aJ A A (fun w hm=>aY (gH n w (hr.below hm.bel) hn)))
 intro vf pf hR
 have e2:=hR 2 (by decide)
 have e4:=hR 4 (by decide)
 exact fX A (sk 46 (congrArg some e2.1) (sk 48 (congrArg some e4.1) (aB _))) (aT (iM A A A))
 intro vf pf hR
 have e1:=hR 1 (by decide)
 have e5:=hR 5 (by decide)
 exact eZ A (sk 45 (congrArg some e1.1) (sk 49 (congrArg some e5.1) (aB _))) (aT (dF 2 A A A A (aE hr.an)))
 intro vf pf hR
 have e6:=hR 6 (by decide)
 exact eZ A (sk 50 (congrArg some e6.1) (aB _)) (aT (eI (us:=[jI ((n.gs.getD (((xs.getD i 0)-n.fst).toNat) an0).a),jI ((n.gs.getD (((xs.getD i 0)-n.fst).toNat) an0).b)]) A A A A (aE hr.an) (by omega) A (fC anC 2 (fun _=>A) n.gs an0 (show((xs.getD i 0)-n.fst).toNat<_ by omega) A)))
 intro vf pf hR
 exact eZ A (aB _) (bP (z:=.agg #[jI 0,jI 0]) A A)
 intro vf pf hR
 have e7:=hR 7 (by decide)
 have e8:IsBox #[jI 0,jI 0] 67 (vf 8) (pf 8):=hR 8 (by decide)
 obtain⟨b13,vE8,pE8⟩:=e8
 have q0:=hR 0 (by decide)
 have q1:=hR 1 (by decide)
 have q2:=hR 2 (by decide)
 have q3:=hR 3 (by decide)
 have q4:=hR 4 (by decide)
 have q5:=hR 5 (by decide)
 have q6:=hR 6 (by decide)
 have q7:=hR 7 (by decide)
 refine cE (bO [8,6,5,4,2,1,0] _ (sk 9 (congrArg some vE8) (bO [43,37,36,35,34,24] _ (sk 51 (congrArg some e7.1) (aB _)) A)) A) (by simp only[pE8,vE8,q0.2,q1.2,q2.2,q3.2,q4.2,q5.2,q6.2,q7.2,fS]<;>rfl) ?_
 simp only[List.drop_succ_cons,List.drop_zero]
 refine bI (cs':=#[jI ((n.gs.getD (((xs.getD i 0)-n.fst).toNat) an0).a),jI ((n.gs.getD (((xs.getD i 0)-n.fst).toNat) an0).b)]) (i:=0) (off:=0) (us:=[jI ((n.gs.getD (((xs.getD i 0)-n.fst).toNat) an0).a),jI ((n.gs.getD (((xs.getD i 0)-n.fst).toNat) an0).b)]) A A A A A A A (aA A (aA A bA)) A A A (bR (aC ?_))
 refine cJ 8 [[],[0],[],[2],[3],[],[5],[6]] [52,53,54,55,56,57,58,59] [jI (xs.getD i 0),jI ((xs.getD i 0)+1),.pointer (some ⟨b13,0+0,none⟩),jI ((n.gs.getD (((xs.getD i 0)-n.fst).toNat) an0).a),jI (lvI ((n.gs.getD (((xs.getD i 0)-n.fst).toNat) an0).a)),.pointer (some ⟨b13,0+1,none⟩),jI ((n.gs.getD (((xs.getD i 0)-n.fst).toNat) an0).b),jI (lvI ((n.gs.getD (((xs.getD i 0)-n.fst).toNat) an0).b))] (by kernel_rfl) A ?_ ?_
 exact⟨bK A (aK A) A,bK A (dM A A A) A,bK A (cQ 0 A A A) A,bK A (aN A A A (aH 0 A A)) A,.inl ⟨A,aJ A A (fun w hm=>aY (nE ((n.gs.getD (((xs.getD i 0)-n.fst).toNat) an0).a) w (by omega)))⟩,bK A (cQ 1 A A A) A,bK A (aN A A A (aH 0 A A)) A,.inl ⟨A,aJ A A (fun w hm=>aY (nE ((n.gs.getD (((xs.getD i 0)-n.fst).toNat) an0).b) w (by omega)))⟩,trivial⟩
 simp only[List.drop_succ_cons,List.drop_zero]
 refine aU 3 A (bJ (aP A (cQ 1 A A A) (aP A (aN A A A (aH 4 A A)) (aM 1 A (aP A (iG A A (by omega) (by omega)) (aM 1 A ?_))))))
 refine dP A (bB (z:=jI 0) (s:=1) (cs:=(mI [-((xs.getD i 0)+1),lvI ((n.gs.getD (((xs.getD i 0)-n.fst).toNat) an0).a)])) A Tryz.underlying26 A (by decide) A (by kernel_rfl) A) ?_
 intro g14
 refine aM 1 A (aP A (iG A A (by omega) (by omega)) (aM 1 A ?_))
 refine dP A (bB (z:=jI 0) (s:=1) (cs:=(mI [-((xs.getD i 0)+1),lvI ((n.gs.getD (((xs.getD i 0)-n.fst).toNat) an0).b)])) A Tryz.underlying26 A (by decide) A (by kernel_rfl) A) ?_
 intro g15
 refine aM 2 A (aP A (iG A A (by omega) (by omega)) (aM 1 A (aP A (iG A A (by omega) (by omega)) ?_)))
 refine dP A (bB (z:=jI 0) (s:=1) (cs:=(mI [(xs.getD i 0)+1, -(lvI ((n.gs.getD (((xs.getD i 0)-n.fst).toNat) an0).a)), -(lvI ((n.gs.getD (((xs.getD i 0)-n.fst).toNat) an0).b))])) A Tryz.underlying26 A (by decide) A (by kernel_rfl) A) ?_
 intro g16
 refine dP A (bB (z:=.slice none 0 0) (s:=1) (cs:=[.slice (some ⟨g14,0,none⟩) 2 2,.slice (some ⟨g15,0,none⟩) 2 2,.slice (some ⟨g16,0,none⟩) 3 3]) A Tryz.underlying33 A (by decide) A (by kernel_rfl) A) ?_
 intro g17
 refine cW (i:=6) (z:=.slice none 0 0) (bytes:=24) (n':=(rs++[(CRow.mk (.slice (some ⟨g14,0,none⟩) 2 2) ([-((xs.getD i 0)+1),lvI ((n.gs.getD (((xs.getD i 0)-n.fst).toNat) an0).a)])),(CRow.mk (.slice (some ⟨g15,0,none⟩) 2 2) ([-((xs.getD i 0)+1),lvI ((n.gs.getD (((xs.getD i 0)-n.fst).toNat) an0).b)])),(CRow.mk (.slice (some ⟨g16,0,none⟩) 3 3) ([(xs.getD i 0)+1, -(lvI ((n.gs.getD (((xs.getD i 0)-n.fst).toNat) an0).a)), -(lvI ((n.gs.getD (((xs.getD i 0)-n.fst).toNat) an0).b))]))]).length) (xs':=((rs++[(CRow.mk (.slice (some ⟨g14,0,none⟩) 2 2) ([-((xs.getD i 0)+1),lvI ((n.gs.getD (((xs.getD i 0)-n.fst).toNat) an0).a)])),(CRow.mk (.slice (some ⟨g15,0,none⟩) 2 2) ([-((xs.getD i 0)+1),lvI ((n.gs.getD (((xs.getD i 0)-n.fst).toNat) an0).b)])),(CRow.mk (.slice (some ⟨g16,0,none⟩) 3 3) ([(xs.getD i 0)+1, -(lvI ((n.gs.getD (((xs.getD i 0)-n.fst).toNat) an0).a)), -(lvI ((n.gs.getD (((xs.getD i 0)-n.fst).toNat) an0).b))]))]).flatMap crowC)) A A A A Tryz.underlying33 (by kernel_rfl) A A A A (aG 0 A) (by simp[Value.oneCell']) (by simp;omega) (cH rs [(CRow.mk (.slice (some ⟨g14,0,none⟩) 2 2) ([-((xs.getD i 0)+1),lvI ((n.gs.getD (((xs.getD i 0)-n.fst).toNat) an0).a)])),(CRow.mk (.slice (some ⟨g15,0,none⟩) 2 2) ([-((xs.getD i 0)+1),lvI ((n.gs.getD (((xs.getD i 0)-n.fst).toNat) an0).b)])),(CRow.mk (.slice (some ⟨g16,0,none⟩) 3 3) ([(xs.getD i 0)+1, -(lvI ((n.gs.getD (((xs.getD i 0)-n.fst).toNat) an0).a)), -(lvI ((n.gs.getD (((xs.getD i 0)-n.fst).toNat) an0).b))]))]) (by rw[List.flatMap_append];rfl) (fun _=>A) ?_
 intro v18
 refine aP A (cQ 1 A A A) (dZ (i:=6) A (fun ho19=>?_))
 refine fI (i:=8) (cs':=#[jI n.cnt,v18]) A A A A A A ho19 A A A A (dB (cK (bJ (aP A (dM A A A) (dJ 1 A ?_)))))
 refine aZ 11 [10,9,8,7,6,4,0,1,2,3,5] A A (by decide) ?_
 refine cZ [bigE ((rs++[(CRow.mk (.slice (some ⟨g14,0,none⟩) 2 2) ([-((xs.getD i 0)+1),lvI ((n.gs.getD (((xs.getD i 0)-n.fst).toNat) an0).a)])),(CRow.mk (.slice (some ⟨g15,0,none⟩) 2 2) ([-((xs.getD i 0)+1),lvI ((n.gs.getD (((xs.getD i 0)-n.fst).toNat) an0).b)])),(CRow.mk (.slice (some ⟨g16,0,none⟩) 3 3) ([(xs.getD i 0)+1, -(lvI ((n.gs.getD (((xs.getD i 0)-n.fst).toNat) an0).a)), -(lvI ((n.gs.getD (((xs.getD i 0)-n.fst).toNat) an0).b))]))]).map cPart),rowE 26 1 (.slice (some ⟨g17,0,none⟩) 3 3) 3 ([.slice (some ⟨g14,0,none⟩) 2 2,.slice (some ⟨g15,0,none⟩) 2 2,.slice (some ⟨g16,0,none⟩) 3 3]),boxE b13 #[jI ((n.gs.getD (((xs.getD i 0)-n.fst).toNat) an0).a),jI ((n.gs.getD (((xs.getD i 0)-n.fst).toNat) an0).b)] 67,rowE 26 1 v18 ((rs++[(CRow.mk (.slice (some ⟨g14,0,none⟩) 2 2) ([-((xs.getD i 0)+1),lvI ((n.gs.getD (((xs.getD i 0)-n.fst).toNat) an0).a)])),(CRow.mk (.slice (some ⟨g15,0,none⟩) 2 2) ([-((xs.getD i 0)+1),lvI ((n.gs.getD (((xs.getD i 0)-n.fst).toNat) an0).b)])),(CRow.mk (.slice (some ⟨g16,0,none⟩) 3 3) ([(xs.getD i 0)+1, -(lvI ((n.gs.getD (((xs.getD i 0)-n.fst).toNat) an0).a)), -(lvI ((n.gs.getD (((xs.getD i 0)-n.fst).toNat) an0).b))]))]).length) ((rs++[(CRow.mk (.slice (some ⟨g14,0,none⟩) 2 2) ([-((xs.getD i 0)+1),lvI ((n.gs.getD (((xs.getD i 0)-n.fst).toNat) an0).a)])),(CRow.mk (.slice (some ⟨g15,0,none⟩) 2 2) ([-((xs.getD i 0)+1),lvI ((n.gs.getD (((xs.getD i 0)-n.fst).toNat) an0).b)])),(CRow.mk (.slice (some ⟨g16,0,none⟩) 3 3) ([(xs.getD i 0)+1, -(lvI ((n.gs.getD (((xs.getD i 0)-n.fst).toNat) an0).a)), -(lvI ((n.gs.getD (((xs.getD i 0)-n.fst).toNat) an0).b))]))]).flatMap crowC),rI9 3 v7 xs,boxE b6 #[jI n.cnt,v18] 53,boxE b2 #[jI 0,.slice none 0 0] 53,nB9 b1 n] (fun w hm=>by rw[List.map_append];exact yY w hm) ?_
 have hrm:(rs++[(CRow.mk (.slice (some ⟨g14,0,none⟩) 2 2) ([-((xs.getD i 0)+1),lvI ((n.gs.getD (((xs.getD i 0)-n.fst).toNat) an0).a)])),(CRow.mk (.slice (some ⟨g15,0,none⟩) 2 2) ([-((xs.getD i 0)+1),lvI ((n.gs.getD (((xs.getD i 0)-n.fst).toNat) an0).b)])),(CRow.mk (.slice (some ⟨g16,0,none⟩) 3 3) ([(xs.getD i 0)+1, -(lvI ((n.gs.getD (((xs.getD i 0)-n.fst).toNat) an0).a)), -(lvI ((n.gs.getD (((xs.getD i 0)-n.fst).toNat) an0).b))]))]).map CRow.xs=ncL n xs (i+1):=by rw[List.map_append,hrs,←zX (by omega) (by assumption)];rfl
 exact cI (i+1) v18 (rs++[(CRow.mk (.slice (some ⟨g14,0,none⟩) 2 2) ([-((xs.getD i 0)+1),lvI ((n.gs.getD (((xs.getD i 0)-n.fst).toNat) an0).a)])),(CRow.mk (.slice (some ⟨g15,0,none⟩) 2 2) ([-((xs.getD i 0)+1),lvI ((n.gs.getD (((xs.getD i 0)-n.fst).toNat) an0).b)])),(CRow.mk (.slice (some ⟨g16,0,none⟩) 3 3) ([(xs.getD i 0)+1, -(lvI ((n.gs.getD (((xs.getD i 0)-n.fst).toNat) an0).a)), -(lvI ((n.gs.getD (((xs.getD i 0)-n.fst).toNat) an0).b))]))]) ⟨by omega,hrm⟩ (by omega) (cT A) (eJ [0,2,0,0,0,0] A)
 refine aU 1 A (aR A ?_)
 refine bM (gF ?_)
 refine aO (bF (bJ (aP A (dM A A A) (dJ 1 A ?_))))
 exact cI (i+1) u rs ⟨by omega,by rw[hrs];exact Dk (by omega) (by assumption)⟩ (by omega) (cT rfl) (dS rfl)
 refine bR (nG A ?_)
 refine bM (dI ?_)
 refine aO (bF (aC ?_))
 refine eV A 6 [0,1,2,3,4,5] (List.take 6 _) (List.drop 6 _) [[],[0],[],[2],[3],[4]] [80,81,82,83,84,85] (fun i_ vs_ v_ p_=>match i_ with|0=>v_=.pointer (some ⟨b6,0+1,none⟩)∧p_=[]|1=>v_=u∧p_=[]|2=>v_=jI lit∧p_=[]|3=>v_=jI (lvI lit)∧p_=[]|4=>IsRow 3 1 1 (mI [lvI lit]) v_ p_|5=>IsRow 26 1 1 ([(gV9 vs_ 0)]) v_ p_|_=>True) (List.take_append_drop 6 _).symm (by kernel_rfl) (by kernel_rfl) A A ?_ ?_
 refine⟨?_,?_,?_,?_,?_,?_,trivial⟩
 intro vf pf hR
 exact fX A (aI [6] A) (aT (cQ 1 A A A))
 intro vf pf hR
 have e0:=hR 0 (by decide)
 exact eZ A (sk 80 (congrArg some e0.1) (aB _)) (aT (aN A A A (aH 3 A A)))
 intro vf pf hR
 exact fX A (aI [1] A) (aT (aK A))
 intro vf pf hR
 have e2:=hR 2 (by decide)
 exact eZ A (sk 82 (congrArg some e2.1) (aB _)) (aJ A A (fun w hm=>aY (nE lit w (by omega))))
 intro vf pf hR
 have e3:=hR 3 (by decide)
 exact eZ A (sk 83 (congrArg some e3.1) (aB _)) (bB (z:=jI 0) (s:=1) (cs:=(mI [lvI lit])) A Tryz.underlying26 A (by decide) A (by kernel_rfl) A)
 intro vf pf hR
 have e4:IsRow 3 1 1 (mI [lvI lit]) (vf 4) (pf 4):=hR 4 (by decide)
 obtain⟨g20,vE4,pE4⟩:=e4
 refine Or.inl ⟨A,?_⟩
 exact bU (sk 84 (congrArg some vE4) (aB _)) (by simp only[pE4,vE4,fS]<;>rfl) (cD (bB (z:=.slice none 0 0) (s:=1) (cs:=[.slice (some ⟨g20,0,none⟩) 1 1]) A Tryz.underlying33 A (by decide) A (by kernel_rfl) A) (fun v_ p_ h=>by show IsRow 26 1 1 ([(vf 4)]) v_ p_;rw[vE4];exact h))
 intro vf pf hR
 have e1:=hR 1 (by decide)
 have e4:IsRow 3 1 1 (mI [lvI lit]) (vf 4) (pf 4):=hR 4 (by decide)
 obtain⟨g20,vE4,pE4⟩:=e4
 have e5:IsRow 26 1 1 ([(vf 4)]) (vf 5) (pf 5):=hR 5 (by decide)
 rw[vE4] at e5
 obtain⟨g21,vE5,pE5⟩:=e5
 have q0:=hR 0 (by decide)
 have q1:=hR 1 (by decide)
 have q2:=hR 2 (by decide)
 have q3:=hR 3 (by decide)
 refine cE (bO [37,36,35,34,24,6,5,4,2,1,0] _ (sk 81 (congrArg some e1.1) (sk 85 (congrArg some vE5) (aB _))) A) (by simp only[pE4,vE4,pE5,vE5,q0.2,q1.2,q2.2,q3.2,fS]<;>rfl) ?_
 simp only[List.drop_succ_cons,List.drop_zero]
 refine cW (i:=3) (z:=.slice none 0 0) (bytes:=24) (n':=(rs++[(CRow.mk (.slice (some ⟨g20,0,none⟩) 1 1) ([lvI lit]))]).length) (xs':=((rs++[(CRow.mk (.slice (some ⟨g20,0,none⟩) 1 1) ([lvI lit]))]).flatMap crowC)) A A A A Tryz.underlying33 (by kernel_rfl) A A A A (aG 1 A) (by simp[Value.oneCell']) (by simp;omega) (cH rs [(CRow.mk (.slice (some ⟨g20,0,none⟩) 1 1) ([lvI lit]))]) (by rw[List.flatMap_append];rfl) (fun _=>A) ?_
 intro v22
 refine aP A (cQ 1 A A A) (dZ (i:=3) A (fun ho23=>?_))
 refine fI (i:=5) (cs':=#[jI n.cnt,v22]) A A A A A A ho23 A A A A (bR (cF (aP A (aF (cs:=[jI n.cnt,v22]) A A A A A (aD 5 A 0 A)) ?_)))
 refine bI (cs':=#[jI n.cnt,v22]) (i:=6) (off:=0) (us:=[jI n.cnt,v22]) A A A A A A A (aA A (aA ho23 bA)) A A A (aU 1 A ?_)
 refine aV ?_
 have hix:i=xs.length:=by omega
 subst hix
 refine aZ 8 [7,6,5,4,3,1,0,2] A A (by decide) ?_
 refine cZ [bigE ((rs++[(CRow.mk (.slice (some ⟨g20,0,none⟩) 1 1) ([lvI lit]))]).map cPart),rowE 26 1 (.slice (some ⟨g21,0,none⟩) 1 1) 1 ([.slice (some ⟨g20,0,none⟩) 1 1]),rowE 26 1 v22 ((rs++[(CRow.mk (.slice (some ⟨g20,0,none⟩) 1 1) ([lvI lit]))]).length) ((rs++[(CRow.mk (.slice (some ⟨g20,0,none⟩) 1 1) ([lvI lit]))]).flatMap crowC),rI9 3 v7 xs,boxE b6 #[jI n.cnt,v22] 53,boxE b2 #[jI n.cnt,v22] 53,nB9 b1 n] (fun w hm=>by rw[List.map_append];exact mF w hm) ?_
 refine pU (i:=2) A (fun oK=>?_)
 refine aZ 7 [6,5,4,3,1,2,0] A A (by decide) ?_
 refine cZ [clE v22 (rs++[(CRow.mk (.slice (some ⟨g20,0,none⟩) 1 1) ([lvI lit]))]),rowE 26 1 (.slice (some ⟨g21,0,none⟩) 1 1) 1 ([.slice (some ⟨g20,0,none⟩) 1 1]),rI9 3 v7 xs,boxE b6 #[jI n.cnt,v22] 53,boxE b2 #[jI n.cnt,v22] 53,nB9 b1 n] (fun w hm=>Mem.big (ps:=[bigE ((rs++[(CRow.mk (.slice (some ⟨g20,0,none⟩) 1 1) ([lvI lit]))]).map cPart),rowE 26 1 v22 ((rs++[(CRow.mk (.slice (some ⟨g20,0,none⟩) 1 1) ([lvI lit]))]).length) ((rs++[(CRow.mk (.slice (some ⟨g20,0,none⟩) 1 1) ([lvI lit]))]).flatMap crowC)]) hm) ?_
 exact bV (rs:=[.cell 4 53,.tmp 5]) (vs:=[.agg #[jI n.cnt,v22],.bool true]) (post:=[clE v22 (rs++[(CRow.mk (.slice (some ⟨g20,0,none⟩) 1 1) ([lvI lit]))])]) rfl ⟨⟨b2,0,[jI n.cnt,v22],rfl,rfl,by kernel_rfl,by kernel_rfl,aD 4 rfl 0 rfl⟩,rfl,trivial⟩ rfl (eJ [0] rfl) ⟨_,_,xs,rfl,rfl,oK,⟨hco,by rw[List.map_append,hrs];rfl⟩⟩
def Fx (xs ps:List Int):Prop:=(∃i,i<xs.length∧valI ps (xs.getD i 0)=1)∨(∃i j,i<xs.length∧j<xs.length∧valI ps (xs.getD i 0)=0∧valI ps (xs.getD j 0)=0∧xs.getD i 0≠xs.getD j 0)
structure PFx (n:Int) (rs:List CRow) (ps out:List Int):Prop where
  ok:PsOk n out
  len:out.length=ps.length
  ext:∀k,k<ps.length→ps.getD k 0≠0→out.getD k 0=ps.getD k 0
  fx:∀q,q<rs.length→Fx (rs.getD q crow0).xs out
theorem uM {xs ps:List Int}{m:Nat}(hm:m<xs.length) (hv:valI ps (xs.getD m 0)=1):Fx xs ps:=.inl ⟨m,hm,hv⟩
theorem uL {xs ps:List Int}{m:Nat}{u:Int}(h:USeen xs ps m u) (hm:m<xs.length) (hv:valI ps (xs.getD m 0)=0) (hu:u≠0) (hne:u≠xs.getD m 0):Fx xs ps:=by
  obtain⟨h1,i,hi,e⟩:=h.one hu
  exact .inr ⟨i,m,by omega,hm,by rw[e];exact h1,hv,by rw[e];exact hne⟩
theorem qC:∀xs:List Int,zeros xs≤xs.length
  | []=>Nat.le_refl _
  | x::xs=>by have:=qC xs;simp only[zeros,List.length_cons];split<;>omega
theorem rZ:∀xs ys:List Int,zeros (xs++ys)=zeros xs+zeros ys
  | [],ys=>by simp[zeros]
  | x::xs,ys=>by simp only[List.cons_append,zeros,rZ xs ys];omega
theorem qA:∀xs:List Int,(∀k,k<xs.length→xs.getD k 0≠0)→zeros xs=0
  | [],_=>rfl
  | x::xs,h=>by
    have h0:x≠0:=h 0 (by simp)
    have:=qA xs (fun k hk=>by have:=h (k+1) (by simpa using hk);simpa using this)
    simp[zeros,h0,this]
theorem kN:∀xs ys:List Int,ys.length=xs.length→(∀k,k<xs.length→xs.getD k 0≠0→ys.getD k 0=xs.getD k 0)→zeros ys≤zeros xs
  | [],[],_,_=>Nat.le_refl _
  | [],y::ys,h,_=>by simp at h
  | x::xs,[],h,_=>by simp at h
  | x::xs,y::ys,h,he=>by
    have ih:=kN xs ys (by simpa using h) (fun k hk hx=>by have:=he (k+1) (by simpa using hk) (by simpa using hx);simpa using this)
    have h0:=he 0 (by simp)
    simp only[List.getD_cons_zero] at h0
    simp only[zeros]
    by_cases hx:x=0
    · rw[if_pos hx];split<;>omega
    · rw[if_neg hx,if_neg (by rw[h0 hx];exact hx)];omega
theorem mD {xs:List Int}{F k:Nat}(h:k<F):(xs.take F).getD k 0=xs.getD k 0:=by
  rw[List.getD_eq_getElem?_getD,List.getElem?_take_of_lt h,←List.getD_eq_getElem?_getD]
theorem xQ {F:Nat}{xs:List Int}(h:∀k,k<F→k<xs.length→xs.getD k 0≠0):zeros xs≤xs.length-F:=by
  have e:zeros xs=zeros (xs.take F)+zeros (xs.drop F):=by rw[←rZ,List.take_append_drop]
  have h1:zeros (xs.take F)=0:=qA _ (fun k hk=>by rw[List.length_take] at hk;rw[mD (by omega)];exact h k (by omega) (by omega))
  have h2:=qC (xs.drop F)
  rw[List.length_drop] at h2
  omega
theorem zK {n:Int}{ps zs:List Int}(hl:zs.length=ps.length) (hp:PsOk n ps) (he:∀k,k<ps.length→ps.getD k 0≠0→zs.getD k 0=ps.getD k 0) {l:Int}(h0:l≠0) (h1 : -n≤l) (h2:l≤n) (hv:valI ps l=1):valI zs l=1:=by
  have hln:=hp.1
  unfold valI at *
  split at hv
  · rename_i hc
    rw[if_pos hc,he (-l-1).toNat (by omega) (by omega)];exact hv
  · rename_i hc
    rw[if_neg hc,he (l-1).toNat (by omega) (by omega)];exact hv
theorem nM {n:Int}{rs:List CRow}{ps zs:List Int}(hr:ClOk n rs) (hl:zs.length=ps.length) (hp:PsOk n ps) (he:∀k,k<ps.length→ps.getD k 0≠0→zs.getD k 0=ps.getD k 0) (hs:SatF rs ps):SatF rs zs:=fun q hq=>by
  obtain⟨i,hi,hv⟩:=hs q hq
  have h3:=(hr.ok q hq).2 i hi
  exact⟨i,hi,zK hl hp he h3.1 h3.2.1 h3.2.2 hv⟩
def fillM (ps:List Int):List Int:=ps.map (fun x=>if x=0 then -1 else x)
theorem uP {ps:List Int}{k:Nat}(h:k<ps.length):(fillM ps).getD k 0=if ps.getD k 0=0 then -1 else ps.getD k 0:=by simp[fillM,h]
theorem Bw {n:Int}{ps:List Int}(h:PsOk n ps):Full n (fillM ps):=by
  have hl:(fillM ps).length=ps.length:=by simp[fillM]
  refine⟨⟨by rw[hl];exact h.1,fun i hi=>?_⟩,fun i hi=>?_⟩
  · rw[uP (by omega)];have:=h.2 i (by omega);split<;>omega
  · rw[uP (by omega)];split<;>omega
theorem wW {ps:List Int}:∀k,k<ps.length→ps.getD k 0≠0→(fillM ps).getD k 0=ps.getD k 0:=fun k hk h=>by rw[uP hk,if_neg h]
theorem Cr {n:Int}{rs:List CRow}{ps:List Int}(hr:ClOk n rs) (hp:PsOk n ps) (hs:SatF rs ps):∃fs,Full n fs∧SatF rs fs∧Agree ps fs:=
  ⟨fillM ps,Bw hp,nM hr (by simp[fillM]) hp wW hs,fun k hk h=>(wW k hk h).symm⟩
theorem fx_sat {n:Int}{rs:List CRow}{ps:List Int}(hr:ClOk n rs) (hp:PsOk n ps) (hf:∀q,q<rs.length→Fx (rs.getD q crow0).xs ps) (hz:∀k,k<ps.length→ps.getD k 0≠0):SatF rs ps:=fun q hq=>by
  rcases hf q hq with h|⟨i,j,hi,hj,h1,h2,h3⟩
  · exact h
  · exfalso
    have h4:=(hr.ok q hq).2 i hi
    have hl:=hp.1
    unfold valI at h1
    split at h1
    · exact hz (-(rs.getD q crow0).xs.getD i 0-1).toNat (by omega) (by omega)
    · exact hz ((rs.getD q crow0).xs.getD i 0-1).toNat (by omega) h1
def NoFs (n:Int) (rs:List CRow) (ps:List Int):Prop:=∀fs,Full n fs→SatF rs fs→Agree ps fs→False
theorem Fg (k:Nat):(1:Int)≤2 ^ k:=by have:(0:Int)<2 ^ k:=Int.pow_pos (by decide);omega
theorem qN {a b:Nat}(h:a≤b):(2:Int) ^ a≤2 ^ b:=by
  have h1:(2:Nat) ^ a≤2 ^ b:=Nat.pow_le_pow_right (by decide) h
  have e:∀k:Nat,(2:Int) ^ k=((2 ^ k:Nat):Int):=fun k=>by simp
  rw[e a,e b];omega
theorem vW {n:Int}{rs:List CRow}{own out:List Int}{ok:Bool}(h:POk n rs own out ok) (hk:ok=false):NoFs n rs own:=fun fs hf hs ha=>by
  have:=(h.yes fs hf hs ha).1;rw[hk] at this;cases this
theorem Fi {n:Int}{rs:List CRow}{own out:List Int}{ok:Bool}(h:POk n rs own out ok) (hn:NoFs n rs out):NoFs n rs own:=fun fs hf hs ha=>hn fs hf hs (h.yes fs hf hs ha).2.1
theorem Dj {n:Int}{rs:List CRow}{zs:List Int}{k:Nat}(hk:k<zs.length) (hl:(zs.length:Int)=n) (h0:zs.getD k 0=0) (h1:NoFs n rs (zs.set k (-1))) (h2:NoFs n rs (zs.set k 1)):NoFs n rs zs:=fun fs hf hs ha=>by
  have hfl:=hf.1.1
  have hr:=hf.1.2 k (by omega)
  have hz:=hf.2 k (by omega)
  have key:∀x:Int,fs.getD k 0=x→Agree (zs.set k x) fs:=fun x hx i hi hne=>by
    rw[List.length_set] at hi
    by_cases e:i=k
    · subst e;rw[eR hi];exact hx.symm
    · rw[eO (fun h=>e h.symm)] at hne ⊢;exact ha i hi hne
  rcases(show fs.getD k 0 = -1∨fs.getD k 0=1 by omega) with e|e
  · exact h1 fs hf hs (key _ e)
  · exact h2 fs hf hs (key _ e)
open Go.RowKit
def FxTo (rs:List CRow) (zs:List Int) (m:Nat):Prop:=∀q,q<m→Fx (rs.getD q crow0).xs zs
theorem Bt {rs:List CRow}{zs:List Int}{m:Nat}(h:FxTo rs zs m) (hf:Fx (rs.getD m crow0).xs zs):FxTo rs zs (m+1):=fun q hq=>by
  by_cases e:q=m
  · subst e;exact hf
  · exact h q (by omega)
theorem Ba (n:Int) (xs ps:List Int) (v pv:Value) (w:World) (hv:RdsW w v 1 xs.length (xs.map (Value.int .i64))) (hpv:RdsW w pv 1 ps.length (ps.map (Value.int .i64))) (hx:LitOk n xs) (hp:PsOk n ps) (hn:n≤400) :
   Calls Tryz.prog 98 #[v,pv] w (Ret w (fun v' post=>∃u cf,v'=.tuple #[.int .i64 u,.bool cf]∧post=[]∧UOk xs ps u cf∧(cf=false→u=0→Fx xs ps))):=by
 have hxl:=hx.1
 have hxz:∀i,i<xs.length→xs.getD i 0≠0:=fun i hi=>(hx.2 i hi).1
 refine bN (N:=34) (args:=[v,pv]) Tryz.func98 A A (bD 2 A (bD 1 A (aC ?_)))
 refine aC (bZ 1 A (aP A (bC A Tryz.underlying26 A (aE hv)) (aU 1 A (bE ?_))))
 refine gT (α:=Nat) (β:=Int) [0,1,4,5,9,10] A (fun m u=>[]) (fun m u=>[(6,jI u),(11,jI (m:Int))]) (fun m u=>m≤xs.length∧USeen xs ps m u) (fun m u=>xs.length-m) 0 0 ⟨by omega,⟨fun i hi=>absurd hi (by omega),fun h=>absurd A h⟩⟩ (cT A) (.slnil) ?_
 intro m u hi1
 obtain⟨hm,hse⟩:=hi1
 refine cF ?_
 refine bQ A A A A A A (fun h2=>?_) (fun h2=>?_)
 refine bR (nF A (bY (fM (cF (aP A (dF 1 A A A A (aE hv)) (aP A (hC A A A (aE hv)) (aM 1 A ?_)))))))
 refine bR (cF ?_)
 have hxm:=hx.2 m (by omega)
 have hvr:=tI hp hxm.1 hxm.2.1 hxm.2.2
 refine aM 2 A (dA A (aJ A A (fun w hm=>aY (pA n ps pv (xs.getD m 0) w (hpv.below hm.bel) hp hxm hn))) ?_)
 refine bR (bE (cF ?_))
 refine cM A A A A A A (fun h3=>?_) (fun h3=>?_)
 refine aU 1 A (aR A (bD 2 A ?_))
 refine aV (aQ ?_)
 refine aQ (fL ?_)
 refine aQ (aL ?_)
 exact bV (rs:=[.tmp 4,.tmp 5]) (vs:=[jI 0,.bool false]) (post:=[]) rfl ⟨rfl,rfl,trivial⟩ rfl (List.nil_sublist _) ⟨_,_,rfl,rfl,by first|exact tK (m:=m) (by omega) (by omega)|exact pM (show USeen xs ps xs.length u from(show m=xs.length by omega)▸hse) hxz (by first|exact(decide_eq_true (by assumption)).symm|exact(decide_eq_false (by assumption)).symm),fun hc9 hu9=>by first|exact uM (m:=m) (by omega) (by omega)|exact uL hse (by omega) (by omega) (by omega) (by omega)|exact absurd hu9 (by assumption)|cases hc9⟩
 refine aU 1 A (aS A (cF ?_))
 refine cM A A A A A A (fun h4=>?_) (fun h4=>?_)
 refine aU 1 A (aR A (aC (aC (bZ 1 A ?_))))
 refine hQ A A A A A A (fun h5=>?_) (fun h5=>?_)
 refine aM 3 A (hQ A A A A A A (fun h6=>?_) (fun h6=>?_))
 refine aU 1 A (aR A (bD 2 A ?_))
 refine aV (aL ?_)
 refine aQ (aQ ?_)
 refine fL ?_
 refine aQ (aL ?_)
 exact bV (rs:=[.tmp 4,.tmp 5]) (vs:=[jI 0,.bool false]) (post:=[]) rfl ⟨rfl,rfl,trivial⟩ rfl (List.nil_sublist _) ⟨_,_,rfl,rfl,by first|exact tK (m:=m) (by omega) (by omega)|exact pM (show USeen xs ps xs.length u from(show m=xs.length by omega)▸hse) hxz (by first|exact(decide_eq_true (by assumption)).symm|exact(decide_eq_false (by assumption)).symm),fun hc9 hu9=>by first|exact uM (m:=m) (by omega) (by omega)|exact uL hse (by omega) (by omega) (by omega) (by omega)|exact absurd hu9 (by assumption)|cases hc9⟩
 refine aU 1 A (aS A (bY (bJ (dJ 2 A (cX (cK ?_))))))
 refine bJ (aP A (dM A A A) (dJ 1 A ?_))
 exact cG (m+1) (xs.getD m 0) ⟨by omega,vM hse (by omega) (by omega) (fun i hi=>hxz i (by omega))⟩ (by omega) (cT A) (.slnil)
 refine aU 5 A (aS A (bY (bJ (dJ 2 A (cX ?_)))))
 refine cK (bJ (aP A (dM A A A) (dJ 1 A ?_)))
 exact cG (m+1) (xs.getD m 0) ⟨by omega,vM hse (by omega) (by omega) (fun i hi=>hxz i (by omega))⟩ (by omega) (cT A) (.slnil)
 refine aU 1 A (hH A (cX (cK (bJ (aP A (dM A A A) (dJ 1 A ?_))))))
 exact cG (m+1) u ⟨by omega,Be hse (by omega)⟩ (by omega) (cT A) (.slnil)
 refine bR (nG A ?_)
 refine bM (dI ?_)
 refine aO (bF (aC (bZ 2 A ?_)))
 refine cM A A A A A A (fun h7=>?_) (fun h7=>?_)
 refine aU 2 A ?_
 exact aV (bV (rs:=[.tmp 4,.tmp 5]) (vs:=[jI u,.bool true]) (post:=[]) rfl ⟨rfl,rfl,trivial⟩ rfl (List.nil_sublist _) ⟨_,_,rfl,rfl,by first|exact tK (m:=m) (by omega) (by omega)|exact pM (show USeen xs ps xs.length u from(show m=xs.length by omega)▸hse) hxz (by first|exact(decide_eq_true (by assumption)).symm|exact(decide_eq_false (by assumption)).symm),fun hc9 hu9=>by first|exact uM (m:=m) (by omega) (by omega)|exact uL hse (by omega) (by omega) (by omega) (by omega)|exact absurd hu9 (by assumption)|cases hc9⟩)
 refine aU 2 A ?_
 exact aV (bV (rs:=[.tmp 4,.tmp 5]) (vs:=[jI u,.bool false]) (post:=[]) rfl ⟨rfl,rfl,trivial⟩ rfl (List.nil_sublist _) ⟨_,_,rfl,rfl,by first|exact tK (m:=m) (by omega) (by omega)|exact pM (show USeen xs ps xs.length u from(show m=xs.length by omega)▸hse) hxz (by first|exact(decide_eq_true (by assumption)).symm|exact(decide_eq_false (by assumption)).symm),fun hc9 hu9=>by first|exact uM (m:=m) (by omega) (by omega)|exact uL hse (by omega) (by omega) (by omega) (by omega)|exact absurd hu9 (by assumption)|cases hc9⟩)
structure Sv where
  v:Int
  pv:Value
  pr:List CRow
  fv:Value
  fo:List Int
abbrev svP (b:Nat) (n:Int) (cv:Value) (s:Sv):List HP:=[boxE b #[.int .i64 n,cv,.int .i64 600,.int .i64 s.v,s.pv,s.fv] 84,bigE (s.pr.map cPart),rS9 26 1 s.pv s.pr crowC,rI9 3 s.fv s.fo]
abbrev svE (b:Nat) (n:Int) (cv:Value) (s:Sv):HP:=bigE (svP b n cv s)
def decL (zs:List Int) (d:Int):List Int:=if 0<d then zs.set (d-1).toNat 1 else zs.set (-d-1).toNat (-1)
def ownL (ds ps:List Int):List Int:=if ds.length=0 then ps else decL ps (ds.getD (ds.length-1) 0)
theorem hZ (ds zs:List Int) (d:Int):ownL (ds++[d]) zs=decL zs d:=by
  unfold ownL
  rw[if_neg (by simp),List.length_append,List.length_singleton,Nat.add_sub_cancel,fK (Nat.le_refl _),Nat.sub_self];rfl
theorem uT (zs:List Int) (d:Int):(decL zs d).length=zs.length:=by unfold decL;split<;>simp
theorem yX {n:Int}{zs:List Int}(h:PsOk n zs) (d:Int):PsOk n (decL zs d):=by
  refine⟨by rw[uT];exact h.1,fun i hi=>?_⟩
  rw[uT] at hi
  unfold decL
  split
  · by_cases e : i = (d - 1).toNat
    · subst e;rw[eR hi];omega
    · rw[eO (fun h=>e h.symm)];exact h.2 i hi
  · by_cases e : i = (-d - 1).toNat
    · subst e;rw[eR hi];omega
    · rw[eO (fun h=>e h.symm)];exact h.2 i hi
theorem yE {n:Int}{ds ps:List Int}(h:PsOk n ps):PsOk n (ownL ds ps):=by
  unfold ownL;split
  · exact h
  · exact yX h _
structure SFree (n:Int) (rs:List CRow) (own zs:List Int) (k:Nat):Prop where
  hp:PsOk n own
  hz:PFx n rs own zs
  hk:k<zs.length
  h0:zs.getD k 0=0
  hb:∀i,i<k→zs.getD i 0≠0
section
variable {n:Int}{rs:List CRow}{F:Nat}{own zs ds:List Int}{k i:Nat}{v0 v1 d:Int}
theorem Ak (k:Nat) (zs:List Int):decL zs (-((k:Int)+1))=zs.set k (-1):=by
  unfold decL;rw[if_neg (by omega),show(-(-((k:Int)+1))-1).toNat=k by omega]
theorem Aj (k:Nat) (zs:List Int):decL zs ((k:Int)+1)=zs.set k 1:=by
  unfold decL;rw[if_pos (by omega),show((k:Int)+1-1).toNat=k by omega]
end
theorem qB {n:Int}{rs:List CRow}{own zs:List Int}(hz:PFx n rs own zs):zeros zs≤zeros own:=kN own zs hz.len hz.ext
theorem Ft {N:Nat}{w0:World}{l:List HP}{env:List (Nat×Value)}{Q:Post}{ex:Exit}{i e s n:Nat}{v:Value}{xs:List Value}(hi:l[i]? = some (rowE e s v n xs)) (k:v.oneCell'=true→HQ N w0 l env ex Q):HQ N w0 l env ex Q:=fun a w st=>k (bT (st.mem.holds _ (bX hi))).one a w st
theorem gS {P:Program}{N:Nat}{w0:World}{l:List HP}{env:List (Nat×Value)}{o:Oper}{t e:TypeId}{x:Operand}{v:Value}(ho:o.op=.buildSlice t 1 #[(0,x)]) (hu:P.underlying t=some (.slice e)) (hi:(P.info? e).map (fun i=>(i.zero,i.size))=some (some (.slice none 0 0),1)) (hx:ev env x=some v) (h1:∀w,Mem w0 l w→v.oneCell'=true) :
    RunQ P N w0 l env o (IsRow e 1 1 [v]):=fun a w st=>fH ho hu hi hx (h1 w st.mem) a w st
theorem kA (xs:List Int) (v:Value) (w:World) (hv:RdsW w v 1 xs.length (xs.map (Value.int .i64))) (hl:xs.length≤1000) (hx:∀i,i<xs.length→-1000≤xs.getD i 0∧xs.getD i 0≤1000) :
   Calls Tryz.prog 85 #[v] w (Ret w (fun v' post=>post=[rI9 3 v' (xs.map (fun x=>-x))]∧v'.oneCell'=true)):=by
 refine bN (N:=19) (args:=[v]) Tryz.func85 A A (bD 1 A (cF ?_))
 refine jM 3 1 (aU 1 A (aC (aC (bZ 1 A (aP A (bC A Tryz.underlying26 A (aE hv)) (aU 1 A (bE ?_)))))))
 refine iC (α:=Nat) (β:=Value) (γ:=List Int) [0,2,6,7] A (fun j u zs=>[rI9 3 u zs]) (fun j u zs=>[(3,u),(8,jI (j:Int))]) (fun j u zs=>j≤xs.length∧zs=(xs.take j).map (fun x=>-x)) (fun j u zs=>xs.length-j) 0 _ [] ⟨by omega,A⟩ (cT A) (dS A) ?_
 intro j u zs hi2
 obtain⟨hj,hz⟩:=hi2
 have hzl:zs.length=j:=by rw[hz,List.length_map,List.length_take];omega
 refine cF ?_
 refine bQ A A A A A A (fun h3=>?_) (fun h3=>?_)
 refine bR (nF A (bY (fM (cF (aP A (dF 1 A A A A (aE hv)) (aP A (hC A A A (aE hv)) (aM 1 A ?_)))))))
 refine bR (bZ 2 A ?_)
 have hxj:=hx j (by omega)
 refine aP A (iG A A (by omega) (by omega)) (dP A (bB (z:=jI 0) (s:=1) (cs:=(mI [-(xs.getD j 0)])) A Tryz.underlying26 A (by decide) A (by kernel_rfl) A) ?_)
 intro g4
 refine cW (i:=1) (z:=jI 0) (bytes:=8) A A A A Tryz.underlying26 (by kernel_rfl) A A A A (aG 0 A) (cO _) (by first|omega|(simp;done)|(simp;omega)) (cH zs ([-(xs.getD j 0)])) (dL zs ([-(xs.getD j 0)])) (fun _=>A) ?_
 intro v5
 refine dJ 1 A (cK (bJ (aP A (dM A A A) (dJ 1 A ?_))))
 exact cI (j+1) v5 (zs++([-(xs.getD j 0)])) ⟨by omega,by rw[hz,eT 0 (show j<xs.length by omega),List.map_append];rfl⟩ (by omega) (cT rfl) (eJ [1] rfl)
 refine bR (nG A ?_)
 refine bM (dI ?_)
 refine aO (bF (bD 2 A ?_))
 refine aV (Ft (i:=0) A (fun hoR=>?_))
 exact dX (post:=[rI9 3 u zs]) rfl rfl (dS rfl) ⟨by rw[hz,show j=xs.length by omega,List.take_length],hoR⟩
open Go.RowKit
theorem jB (zs:List Int) {l:Int}(h:l≠0):valI zs (-l) = -valI zs l:=by
  unfold valI
  by_cases c:l<0
  · rw[if_neg (by omega),if_pos c,Int.neg_neg]
  · rw[if_pos (by omega),if_neg c,Int.neg_neg]
theorem lE {zs:List Int}{k:Int}(h:0≤k):valI zs (k+1)=zs.getD k.toNat 0:=by
  unfold valI;rw[if_neg (by omega),show k+1-1=k by omega]
theorem qG {zs:List Int}{l:Int}(h:0≤l) (hz:zs.getD (l / 2).toNat 0≠0):valI zs (lvI l)≠0∧valI zs (-lvI l) = -valI zs (lvI l)∧lvI l≠0:=by
  have hn:=lE (zs:=zs) (k:=l / 2) (by omega)
  have hl:lvI l≠0:=by unfold lvI;split<;>omega
  refine⟨?_,jB zs hl,hl⟩
  unfold lvI
  split
  · rw[jB zs (by omega),hn];omega
  · rw[hn];exact hz
theorem fx2 {zs:List Int}{a b:Int}(h:Fx [a,b] zs) (ha:valI zs a=0) (hb:valI zs b≠0):valI zs b=1:=by
  rcases h with⟨i,hi,hv⟩|⟨i,j,hi,hj,h1,h2,h3⟩
  · match i,hi with
    | 0,_=>have:valI zs a=1:=hv;omega
    | 1,_=>exact hv
  · match i,j,hi,hj with
    | 0,0,_,_=>exact absurd rfl h3
    | 0,1,_,_=>exact absurd h2 hb
    | 1,_,_,_=>exact absurd h1 hb
theorem fx3 {zs:List Int}{a b c:Int}(h:Fx [a,b,c] zs) (ha:valI zs a=0) (hb:valI zs b = -1) (hc:valI zs c = -1):False:=by
  rcases h with⟨i,hi,hv⟩|⟨i,j,hi,hj,h1,h2,h3⟩
  · match i,hi with
    | 0,_=>have:valI zs a=1:=hv;omega
    | 1,_=>have:valI zs b=1:=hv;omega
    | 2,_=>have:valI zs c=1:=hv;omega
  · match i,j,hi,hj with
    | 0,0,_,_=>exact h3 rfl
    | 0,1,_,_=>have:valI zs b=0:=h2;omega
    | 0,2,_,_=>have:valI zs c=0:=h2;omega
    | 1,_,_,_=>have:valI zs b=0:=h1;omega
    | 2,_,_,_=>have:valI zs c=0:=h1;omega
theorem fx_all {zs c:List Int}(h:Fx c zs) (hz:∀x∈c,valI zs x≠0):SatC c zs:=by
  rcases h with h|⟨i,j,hi,hj,h1,h2,h3⟩
  · exact h
  · exact absurd h1 (hz _ (bS hi))
theorem tY {n:Nt}{l:Int}{rs:List CRow}{xs:List Int}(h:NcOk n l rs xs) {zs:List Int}(hf:∀q,q<rs.length→Fx (rs.getD q crow0).xs zs) {c:List Int}(hc:c∈ncL n xs xs.length++[[lvI l]]):Fx c zs:=by
  rw[←h.rs] at hc
  obtain⟨r,hr,rfl⟩:=List.mem_map.1 hc
  obtain⟨q,hq,rfl⟩:=List.mem_iff_getElem.1 hr
  have:=hf q hq
  rw[List.getD_eq_getElem?_getD,List.getElem?_eq_getElem hq] at this
  exact this
theorem lY {n:Nt}{l:Int}{xs:List Int}{k:Int}(hk:k∈xs) (ha:isAndB n k=true) {c:List Int}(hc:c∈clK n k):c∈ncL n xs xs.length++[[lvI l]]:=by
  refine List.mem_append.2 (.inl ?_)
  unfold ncL
  rw[List.take_length]
  exact List.mem_append.2 (.inr (List.mem_flatMap.2 ⟨k,List.mem_filter.2 ⟨hk,ha⟩,hc⟩))
theorem rE {n:Nt}(hn:NtOk n) {l:Int}{rs:List CRow}{xs zs:List Int}(h:NcOk n l rs xs) (hf:∀q,q<rs.length→Fx (rs.getD q crow0).xs zs) (hl:∀k:Int,0≤k→k<n.fst→zs.getD k.toNat 0≠0) :
    ∀(N:Nat) (k:Int),k.toNat<N→k∈xs→zs.getD k.toNat 0≠0
  | 0,k,hk,_=>absurd hk (by omega)
  | N+1,k,hk,hx=>by
    obtain⟨r0,r1⟩:=h.cone.rng k hx
    by_cases hc:k<n.fst
    · exact hl k r0 hc
    · have hand : isAndB n k = true := gX.2 ⟨by omega, r1⟩
      obtain⟨o1,o2,o3,o4,o5,o6⟩:=kI hn (k:=k) (by omega) r1
      obtain⟨m1,m2⟩:=h.cone.clo k hx (by omega)
      have ia:=rE hn h hf hl N (ndA n k / 2) (by omega) m1
      have ib:=rE hn h hf hl N (ndB n k / 2) (by omega) m2
      obtain⟨a1,a2,a3⟩:=qG o3 ia
      obtain⟨b1,b2,b3⟩:=qG o5 ib
      intro h0
      have g0:=lE (zs:=zs) r0
      rw[h0] at g0
      have g1:=jB zs (l:=k+1) (by omega)
      rw[g0] at g1
      have va:=fx2 (tY h hf (lY hx hand (c:=[-(k+1),lvI (ndA n k)]) (by simp[clK]))) (by omega) a1
      have vb:=fx2 (tY h hf (lY hx hand (c:=[-(k+1),lvI (ndB n k)]) (by simp[clK]))) (by omega) b1
      exact fx3 (tY h hf (lY hx hand (c:=[k+1, -lvI (ndA n k), -lvI (ndB n k)]) (by simp[clK]))) g0 (by omega) (by omega)
open Go.RowKit
theorem uW (n m:Int) (v:Value) (h:v.oneCell'=true):Tryz.prog.built 84 [(0,.agg #[.int .i64 n,v]),(1,.int .i64 m)]=some #[.int .i64 n,v,.int .i64 m,.int .i64 0,.slice none 0 0,.slice none 0 0]:=by
  cases v<;>first|(exact absurd h Bool.false_ne_true)|kernel_rfl
def oneL (fo:List Int) (k:Nat):List Bl:=(fo.take k).map fun x=>Bl.mk (decide (x=1))
theorem Dh {fo:List Int}{k:Nat}(h:k≤fo.length):(oneL fo k).length=k:=by simp[oneL];omega
theorem sO {fo:List Int}{k:Nat}{b:Bool}(h:k<fo.length) (hb:b=decide (fo.getD k 0=1)):oneL fo k++[Bl.mk b]=oneL fo (k+1):=by
  unfold oneL;rw[eT 0 h,List.map_append,hb];rfl
theorem Bg {n:Int}{fo:List Int}(h:Full n fo):fullL (oneL fo fo.length)=fo:=by
  unfold oneL fullL
  rw[List.take_length,List.map_map]
  refine List.ext_getElem (by simp) (fun i h1 h2=>?_)
  rw[List.getElem_map]
  have a:=h.1.2 i h2
  have b:=h.2 i h2
  rw[List.getD_eq_getElem?_getD,List.getElem?_eq_getElem h2] at a b
  have a2 : -1≤fo[i]∧fo[i]≤1:=a
  have b2:fo[i]≠0:=b
  show(if decide (fo[i]=1)=true then (1:Int) else -1)=fo[i]
  by_cases c:fo[i]=1
  · rw[c];rfl
  · rw[decide_eq_false c];simp;omega
def SRes (n:Int) (rs:List CRow) (cd:Int) (bs:List Bl):Prop:=(cd=1∧Full n (fullL bs)∧SatF rs (fullL bs))∨(cd=2∧bs=[]∧∀fs,Full n fs→SatF rs fs→False)
theorem rY:∀k:Nat,zeros (List.replicate k 0)=k
  | 0=>rfl
  | k+1=>by rw[List.replicate_succ];simp only[zeros,rY k,if_true];omega
theorem Di {n:Int}{rs:List CRow}(h:NoFs n rs (ownL [] (List.replicate n.toNat 0))):∀fs,Full n fs→SatF rs fs→False:=fun fs h1 h2=>h fs h1 h2 (fun k hk hne=>by
  have e:(ownL [] (List.replicate n.toNat (0:Int))).getD k 0=0:=by
    show(List.replicate n.toNat (0:Int)).getD k 0=0
    rw[List.getD_eq_getElem?_getD,List.getElem?_replicate];split<;>rfl
  exact absurd e hne)
open Go.RowKit
def litsL (bs:List Bl) (k:Nat):List Int:=(bs.take k).map fun b=>if b.b=true then 1 else 0
theorem Bj {bs:List Bl}{k:Nat}(h:k≤bs.length):(litsL bs k).length=k:=by simp[litsL];omega
open Go.RowKit
def stB (n:Nt) (bits:Int) (k:Nat):List Int:=(List.range k).map fun i=>bits / 2 ^ (n.ins.toNat+i) % 2
theorem hY (n:Nt) (bits:Int) (k:Nat):(stB n bits k).length=k:=by simp[stB]
theorem vH (n:Nt) (bits:Int) (k:Nat):stB n bits k++[bits / 2 ^ (n.ins.toNat+k) % 2]=stB n bits (k+1):=by unfold stB;rw[List.range_succ,List.map_append];rfl
theorem xU (n:Nt) (bits:Int) {k i:Nat}(h:i<k):(stB n bits k).getD i 0=bits / 2 ^ (n.ins.toNat+i) % 2:=by simp[stB,h]
theorem nL {x:Int}(h:0≤x∧x≤4294967295) (k:Nat):0≤x / 2 ^ k∧x / 2 ^ k≤4294967295:=by
  have hp:(0:Int)<2 ^ k:=Int.pow_pos (by decide)
  exact⟨Int.ediv_nonneg h.1 (by omega),Int.le_trans (Int.ediv_le_self _ h.1) h.2⟩
def rvL (n:Nt) (bits:Int) (q:Nat):List Int:=((rtsL n n.ss.length).take q).map (bitL (valsL n (stB n bits n.ss.length) bits))
theorem vN (n:Nt) (bits:Int) {q:Nat}(h:q<(rtsL n n.ss.length).length):rvL n bits q++[bitL (valsL n (stB n bits n.ss.length) bits) ((rtsL n n.ss.length).getD q 0)]=rvL n bits (q+1):=by
  unfold rvL;rw[eT 0 h,List.map_append];rfl
theorem iL (n:Nt) (bits:Int) (w:World) (hr:RdsNt w n) (hn:NtOk n) (hbt:0≤bits∧bits≤4294967295) :
   Calls Tryz.prog 13 #[.agg #[.int .i64 n.ins,n.sv,n.av,n.ov],.int .i64 bits] w (Ret w (fun v' post=>post=[rI9 3 v' ((rvL n bits (rtsL n n.ss.length).length))])):=by
 have hi0:=hn.i0
 have hi1:=hn.i1
 have hs1:=hn.s1
 have ha1:=hn.a1
 have ho1:=hn.o1
 have hcnt:n.cnt=1+n.ins+n.ss.length+n.gs.length:=rfl
 have hfst:n.fst=1+n.ins+n.ss.length:=rfl
 refine bN (N:=56) (args:=[.agg #[jI n.ins,n.sv,n.av,n.ov],jI bits]) Tryz.func13 A A (cF ?_)
 refine cR A (cN A A) ?_
 intro b1
 refine aU 1 A (cF ?_)
 refine dP A (dH (s:=1) A Tryz.underlying26 A) ?_
 intro g2
 refine aU 1 A (eP (aP A (aF (cs:=[jI n.ins,n.sv,n.av,n.ov]) A A A A A (aD 1 A 0 A)) ?_))
 refine dA A (aJ A A (fun w hm=>aY (eA n w (hr.below hm.bel) hn))) (aU 1 A (aS A (bY (cF ?_))))
 refine dP A (dH (s:=1) A Tryz.underlying26 A) ?_
 intro g3
 refine aU 1 A (aC (bD 1 A (bE ?_)))
 refine iC (α:=Nat) (β:=Value) (γ:=List Int) [0,1,2,4,5,14] A (fun k u zs=>[rI9 3 u zs,rowE 3 1 (.slice (some ⟨g2,0,none⟩) 0 0) 0 ([]),nB9 b1 n]) (fun k u zs=>[(6,u),(7,jI (k:Int))]) (fun k u zs=>k≤n.ss.length∧zs=stB n bits k) (fun k u zs=>n.ss.length-k) 0 _ [] ⟨by omega,A⟩ (cT A) (dS A) ?_
 intro k u zs hi4
 obtain⟨hk,hz⟩:=hi4
 have hzl:zs.length=k:=by rw[hz];exact hY _ _ _
 refine aC (aC (bZ 1 A (aP A (cQ 1 A A A) (aP A (aN A A A (aH 2 A A)) (aP A (bC A Tryz.underlying24 A (aE hr.sq)) ?_)))))
 refine bQ A A A A A A (fun h5=>?_) (fun h5=>?_)
 refine bR (aR A (bY (fM (bZ 2 A (aP A (cQ 0 A A A) (aP A (aN A A A (aH 2 A A)) (aM 1 A (aP A (dM A A A) ?_))))))))
 refine aP A (iO A A A (by omega)) (aP A (cP A (by decide) A A (r:=bits / 2 ^ (n.ins.toNat+k) % 2) (by rw[show(n.ins+(k:Int)).toNat=n.ins.toNat+k by omega];exact Bit.and_one _ (nL hbt _).1 (by have:=(nL hbt (n.ins.toNat+k)).2;omega))) ?_)
 refine dP A (bB (z:=jI 0) (s:=1) (cs:=(mI [bits / 2 ^ (n.ins.toNat+k) % 2])) A Tryz.underlying26 A (by decide) A (by kernel_rfl) A) ?_
 intro g6
 refine cW (i:=1) (z:=jI 0) (bytes:=8) A A A A Tryz.underlying26 (by kernel_rfl) A A A A (aG 0 A) (cO _) (by first|omega|(simp;done)|(simp;omega)) (cH zs ([bits / 2 ^ (n.ins.toNat+k) % 2])) (dL zs ([bits / 2 ^ (n.ins.toNat+k) % 2])) (fun _=>A) ?_
 intro v7
 refine dJ 1 A (cK (bZ 1 A (aP A (dM A A A) (dJ 1 A ?_))))
 exact cI (k+1) v7 (zs++([bits / 2 ^ (n.ins.toNat+k) % 2])) ⟨by omega,by rw[hz];exact vH _ _ _⟩ (by omega) (cT rfl) (eJ [1,0,0] rfl)
 refine bR (aS A ?_)
 refine bM (dI ?_)
 refine aO (bF (cF (aP A (aF (cs:=[jI n.ins,n.sv,n.av,n.ov]) A A A A A (aD 2 A 0 A)) (aM 1 A ?_))))
 have hzS:zs=stB n bits n.ss.length:=by rw[hz,show k=n.ss.length by omega]
 have hsoB:StOk n (stB n bits n.ss.length):=⟨hY _ _ _,fun k hk=>by rw[xU n bits hk];have h9:=Int.emod_nonneg (bits / 2 ^ (n.ins.toNat+k)) (show(2:Int)≠0 by decide);have h8:=Int.emod_lt_of_pos (bits / 2 ^ (n.ins.toNat+k)) (show(0:Int)<2 by decide);(first|omega|(split<;>omega)|exact⟨h9,by omega,fun _=>by omega⟩)⟩
 have hva:=nI hn (hY n bits n.ss.length) bits
 have hvl:=hva.len
 have hrtl:=gM hn n.ss.length (Nat.le_refl _)
 refine aM 1 A (eB A A A (aJ A A (fun w hm=>mW n (stB n bits n.ss.length) _ bits w (hr.below hm.bel) hn (by have h9:=aG 0 rfl w hm;rw[←hzS];exact h9) hsoB hbt)) ?_)
 intro v8 p9 R10
 subst R10
 refine aU 1 A (cF (aP A (aF (cs:=[jI n.ins,n.sv,n.av,n.ov]) A A A A A (aD 3 A 0 A)) ?_))
 refine eB A A A (aJ A A (fun w hm=>gW n w (hr.below hm.bel) hn)) ?_
 intro v11 p12 R13
 subst R13
 refine aU 1 A (aC (bD 1 A (bE ?_)))
 refine iC (α:=Nat) (β:=Value) (γ:=List Int) [0,1,2,4,6,7,8,9,14,21] A (fun q u3 ys=>[rowE 3 1 v11 ((rtsL n n.ss.length).length) (mI (rtsL n n.ss.length)),rowE 3 1 v8 ((valsL n (stB n bits n.ss.length) bits).length) (mI (valsL n (stB n bits n.ss.length) bits)),rI9 3 u zs,rI9 3 u3 ys,nB9 b1 n]) (fun q u3 ys=>[(5,u3),(10,jI (q:Int))]) (fun q u3 ys=>q≤(rtsL n n.ss.length).length∧ys=rvL n bits q∧ys.length=q) (fun q u3 ys=>(rtsL n n.ss.length).length-q) 0 _ [] ⟨by omega,A,A⟩ (cT A) (dS A) ?_
 intro q u3 ys hi14
 obtain⟨hq,hy,hyl⟩:=hi14
 refine aC (aC (bZ 2 A (aP A (bC A Tryz.underlying26 A (aG 0 A)) ?_)))
 refine bQ A A A A A A (fun h15=>?_) (fun h15=>?_)
 refine bR (aR A (bY (fM (bJ ?_))))
 have hrk:=eM hn (i:=q) (by omega)
 unfold LtOk at hrk
 refine aM 4 A (aP A (dF 1 A A A A (aG 0 A)) (aP A (bG (u:=jI ((rtsL n n.ss.length).getD q 0)) A A A (aG 0 A) (eS (show _<(rtsL n n.ss.length).length by omega))) ?_))
 refine dA A (aJ A A (fun w hm=>aY (jR (valsL n (stB n bits n.ss.length) bits) ((rtsL n n.ss.length).getD q 0) _ w ((aG 1 A) w hm) ⟨hrk.1,by omega⟩ (hva.b01 _ (by omega)) (by omega)))) (dP A (bB (z:=jI 0) (s:=1) (cs:=(mI [bitL (valsL n (stB n bits n.ss.length) bits) ((rtsL n n.ss.length).getD q 0)])) A Tryz.underlying26 A (by decide) A (by kernel_rfl) A) ?_)
 intro g16
 refine cW (i:=4) (z:=jI 0) (bytes:=8) A A A A Tryz.underlying26 (by kernel_rfl) A A A A (aG 0 A) (cO _) (by first|omega|(simp;done)|(simp;omega)) (cH ys ([bitL (valsL n (stB n bits n.ss.length) bits) ((rtsL n n.ss.length).getD q 0)])) (dL ys ([bitL (valsL n (stB n bits n.ss.length) bits) ((rtsL n n.ss.length).getD q 0)])) (fun _=>A) ?_
 intro v17
 refine dJ 1 A (cK (bZ 1 A (aP A (dM A A A) (dJ 1 A ?_))))
 exact cI (q+1) v17 (ys++([bitL (valsL n (stB n bits n.ss.length) bits) ((rtsL n n.ss.length).getD q 0)])) ⟨by omega,by rw[hy];exact vN _ _ (by omega),by rw[List.length_append,List.length_singleton];omega⟩ (by omega) (cT rfl) (eJ [1,0,0,0,0] rfl)
 refine bR (aS A ?_)
 refine bM (dI ?_)
 refine aO (bF (bD 2 A ?_))
 refine aV ?_
 have hyy:ys=rvL n bits (rtsL n n.ss.length).length:=by rw[hy,show q=(rtsL n n.ss.length).length by omega]
 exact dX (post:=[rI9 3 u3 ys]) A A (eJ [3] A) (by first|(rw[hyy];done)|(rw[hyy];rfl))
def impO (f:Int):List An→List An→List Int→Option (List An×List Int)
  | [],gs,ps=>some (gs,ps)
  | g::t,gs,ps=>(andO f gs (mpL ps g.a) (mpL ps g.b)).bind fun r=>impO f t r.1 (ps++[r.2])
theorem mB (f:Int) (g:An):∀(xs gs:List An) (ps:List Int),impO f (xs++[g]) gs ps=(impO f xs gs ps).bind fun r=>(andO f r.1 (mpL r.2 g.a) (mpL r.2 g.b)).bind fun s=>some (s.1,r.2++[s.2])
  | [],gs,ps=>rfl
  | a::xs,gs,ps=>by
    show(andO f gs (mpL ps a.a) (mpL ps a.b)).bind _=((andO f gs (mpL ps a.a) (mpL ps a.b)).bind _).bind _
    cases andO f gs (mpL ps a.a) (mpL ps a.b) with
    | none=>rfl
    | some r=>exact mB f g xs r.1 _
theorem qX {f:Int}{xs:List An}{gs:List An}{ps:List Int}:∀(bs:List An),impO f xs gs ps=none→impO f (xs++bs) gs ps=none
  | [],h=>by rw[List.append_nil];exact h
  | b::bs,h=>by
    have h1:impO f (xs++[b]) gs ps=none:=by rw[mB,h];rfl
    have:=qX bs h1
    rwa [List.append_assoc] at this
def jnO (f:Int):List (Int×Int)→List An→Int→Option (List An×Int)
  | [],gs,s=>some (gs,s)
  | p::t,gs,s=>(xorO f gs p.1 p.2).bind fun r=>(orO f r.1 s r.2).bind fun u=>jnO f t u.1 u.2
theorem nV (f:Int) (p:Int×Int):∀(xs:List (Int×Int)) (gs:List An) (s:Int),jnO f (xs++[p]) gs s=(jnO f xs gs s).bind fun r=>(xorO f r.1 p.1 p.2).bind fun q=>orO f q.1 r.2 q.2
  | [],gs,s=>by
    show(xorO f gs p.1 p.2).bind (fun r=>(orO f r.1 s r.2).bind fun u=>some (u.1,u.2))=(xorO f gs p.1 p.2).bind fun q=>orO f q.1 s q.2
    cases xorO f gs p.1 p.2 with
    | none=>rfl
    | some r=>
      show(orO f r.1 s r.2).bind (fun u=>some (u.1,u.2))=orO f r.1 s r.2
      cases orO f r.1 s r.2<;>rfl
  | a::xs,gs,s=>by
    show(xorO f gs a.1 a.2).bind _=((xorO f gs a.1 a.2).bind _).bind _
    cases xorO f gs a.1 a.2 with
    | none=>rfl
    | some r=>
      show(orO f r.1 s r.2).bind _=((orO f r.1 s r.2).bind _).bind _
      cases orO f r.1 s r.2 with
      | none=>rfl
      | some u=>exact nV f p xs u.1 u.2
theorem Ab {f:Int}{xs:List (Int×Int)}{gs:List An}{s:Int}:∀(bs:List (Int×Int)),jnO f xs gs s=none→jnO f (xs++bs) gs s=none
  | [],h=>by rw[List.append_nil];exact h
  | b::bs,h=>by
    have h1:jnO f (xs++[b]) gs s=none:=by rw[nV,h];rfl
    have:=Ab bs h1
    rwa [List.append_assoc] at this
abbrev mt0 (a:Nt):Nt:=Nt.mk (a.ins+a.ss.length) (.slice none 0 0) (.slice none 0 0) (.slice none 0 0) [] [] []
theorem fT (a:Nt):(mt0 a).fst=a.fst:=by unfold Nt.fst;show 1+(a.ins+(a.ss.length:Int))+((0:Nat):Int)=1+a.ins+a.ss.length;omega
theorem yH {a:Nt}(h:NtOk a) (h20:a.ins+a.ss.length≤20):NtOk (mt0 a):=by
  have:=h.i0
  exact⟨by show 0≤a.ins+(a.ss.length:Int);omega,h20,Nat.zero_le _,Nat.zero_le _,Nat.zero_le _,fun s hs=>(by cases hs),fun s hs=>(by cases hs),fun k hk=>absurd hk (Nat.not_lt_zero _),fun x hx=>(by cases hx)⟩
def lfO (f:Int):List Int:=(List.range f.toNat).map fun k:Nat=>2*(k:Int)
theorem uE (f:Int):(lfO f).length=f.toNat:=by simp[lfO]
theorem lfO_at {f:Int}{k:Nat}(h:k<f.toNat):(lfO f).getD k 0=2*(k:Int):=by simp[lfO,h]
def Im (a m:Nt) (gs:List An) (ps:List Int):Prop:=∀k,k<ps.length→LtOk (ps.getD k 0) (m.fst+gs.length)∧∀y,bitL (valsL (withG m gs) [] y) (ps.getD k 0)=(valsL a (stB a y a.ss.length) y).getD k 0
theorem Bk (a:Nt) (h:0≤a.ins) (gs:List An) (y:Int):leafL (withG (mt0 a) gs) [] y=leafL a (stB a y a.ss.length) y:=by
  unfold leafL
  have e:(List.range (withG (mt0 a) gs).ins.toNat)=List.range (a.ins.toNat+a.ss.length):=by
    show List.range (a.ins+(a.ss.length:Int)).toNat=_
    congr 1;omega
  rw[e,List.range_add,List.map_append,List.map_nil,List.append_nil,List.append_assoc]
  congr 2
  unfold stB
  rw[List.map_map,List.map_map]
  refine List.map_congr_left fun i _=>?_
  show y / 2 ^ (a.ins.toNat+i) % 2=y / 2 ^ (a.ins.toNat+i) % 2 % 2
  omega
theorem Eo (v:List Int) (k:Nat):bitL v (2*(k:Int))=v.getD k 0:=by
  unfold bitL;rw[if_pos (by omega),show(2*(k:Int) / 2).toNat=k by omega]
theorem Im.lit {a m:Nt}{gs:List An}{ps:List Int}(h:Im a m gs ps) {l:Int}(h0:0≤l) (h1:l<2*ps.length):LtOk (mpL ps l) (m.fst+gs.length)∧∀y,bitL (valsL (withG m gs) [] y) (mpL ps l)=bitL (valsL a (stB a y a.ss.length) y) l:=by
  obtain⟨g1,g2⟩:=h (l / 2).toNat (by omega)
  unfold mpL
  by_cases c:l % 2=0
  · rw [if_pos c]
    refine⟨g1,fun y=>?_⟩
    rw[g2 y];unfold bitL;rw[if_pos c]
  · rw [if_neg c]
    refine⟨iZ g1,fun y=>?_⟩
    rw[lV _ g1.1,g2 y];unfold bitL;rw[if_neg c]
theorem Im.ext {a m:Nt}{gs gs':List An}{ps:List Int}(h:Im a m gs ps) (hm:m.ss.length=0) (h0:NtOk (withG m gs)) (he:Ext m gs gs'):Im a m gs' ps:=fun k hk=>by
  obtain⟨g1,g2⟩:=h k hk
  exact⟨he.lit g1,fun y=>by rw[he.keep h0 (st:=[]) (by rw[hm];rfl) y g1];exact g2 y⟩
theorem Im.leaf {a b:Nt}(ha:NtOk a) (hb:NtOk b) (h1:b.ins=a.ins) (h2:b.ss.length=a.ss.length) (h20:a.ins+a.ss.length≤20) {gs:List An}(he:Ext (mt0 a) [] gs):Im b (mt0 a) gs (lfO b.fst):=by
  have h0:NtOk (withG (mt0 a) []):=yH ha h20
  have hbi:=hb.i0
  have hf:b.fst=1+b.ins+b.ss.length:=rfl
  refine Im.ext (gs:=[]) (fun k hk=>?_) rfl h0 he
  rw[uE] at hk
  rw[lfO_at hk]
  refine⟨⟨by omega,by rw[fT];show 2*(k:Int)<2*(a.fst+((0:Nat):Int));have:a.fst=1+a.ins+a.ss.length:=rfl;omega⟩,fun y=>?_⟩
  rw[Eo]
  have e1:valsL (withG (mt0 a) []) [] y=leafL a (stB a y a.ss.length) y:=by
    show leafL (withG (mt0 a) []) [] y=_
    exact Bk a (by omega) [] y
  have e2:leafL a (stB a y a.ss.length) y=leafL b (stB b y b.ss.length) y:=by
    unfold leafL stB;rw[h1,h2]
  rw[e1,e2]
  have hl:(leafL b (stB b y b.ss.length) y).length=1+b.ins.toNat+b.ss.length:=by rw[wC,hY]
  have:=kO b (stB b y b.ss.length) y b.gs.length 0 (Nat.zero_le _) (Nat.le_refl _) k (by show k<(leafL b (stB b y b.ss.length) y).length;rw[hl];omega)
  exact this.symm
theorem Im.step {a m:Nt}(ha:NtOk a) (hm:m.ss.length=0) {gs:List An}{ps:List Int}{i:Nat}(h0:NtOk (withG m gs)) (h:Im a m gs ps) (hl:ps.length=(a.fst+i).toNat) (hi:i<a.gs.length) {r:List An×Int}(e:andO m.fst gs (mpL ps (a.gs.getD i an0).a) (mpL ps (a.gs.getD i an0).b)=some r) :
    NtOk (withG m r.1)∧Im a m r.1 (ps++[r.2])∧Ext m gs r.1:=by
  have hk:=jJ h0 e
  have hai:=ha.i0
  have hf:a.fst=1+a.ins+a.ss.length:=rfl
  obtain⟨q1,q2⟩:=ha.an i hi
  obtain⟨a1,a2⟩:=h.lit (l:=(a.gs.getD i an0).a) q1.1 (by have:=q1.2;omega)
  obtain⟨b1,b2⟩:=h.lit (l:=(a.gs.getD i an0).b) q2.1 (by have:=q2.2;omega)
  refine⟨hk.ok,fun k hkl=>?_,hk.toExt⟩
  rw[List.length_append,List.length_singleton] at hkl
  by_cases c:k<ps.length
  · rw [fZ c]
    exact h.ext hm h0 hk.toExt k c
  · have : k = ps.length := by omega
    subst this
    rw[fK (Nat.le_refl _),Nat.sub_self]
    refine⟨hk.lit,fun y=>?_⟩
    show bitL (valsL (withG m r.1) [] y) r.2=_
    rw[hk.val [] y (by rw[hm];rfl)]
    show bitL (valsL (withG m gs) [] y) (mpL ps (a.gs.getD i an0).a)*bitL (valsL (withG m gs) [] y) (mpL ps (a.gs.getD i an0).b)=_
    rw[a2 y,b2 y,hl,tJ ha (hY a y a.ss.length) y hi]
theorem yT {a m : Nt} (ha : NtOk a) (hm : m.ss.length = 0) {gs0 : List An} {lf : List Int} (h0 : NtOk (withG m gs0)) (hI : Im a m gs0 lf) (hl : lf.length = a.fst.toNat) : ∀ (i : Nat) (gs : List An) (ps : List Int), i ≤ a.gs.length → impO m.fst (a.gs.take i) gs0 lf = some (gs, ps) →
    NtOk (withG m gs)∧Im a m gs ps∧ps.length=(a.fst+i).toNat∧Ext m gs0 gs
  | 0,gs,ps,_,e=>by
    have e2:some (gs0,lf)=some (gs,ps):=e
    cases e2
    exact⟨h0,hI,by rw[hl];congr 1;omega,Ext.refl h0⟩
  | i+1,gs,ps,hi,e=>by
    have hai:=ha.i0
    have hf:a.fst=1+a.ins+a.ss.length:=rfl
    rw[eT an0 (show i<a.gs.length by omega),mB] at e
    cases e1:impO m.fst (a.gs.take i) gs0 lf with
    | none=>rw[e1] at e;cases e
    | some r=>
      obtain⟨g1,p1⟩:=r
      rw[e1] at e
      obtain⟨k1,k2,k3,k4⟩:=yT ha hm h0 hI hl i g1 p1 (by omega) e1
      have e:((andO m.fst g1 (mpL p1 (a.gs.getD i an0).a) (mpL p1 (a.gs.getD i an0).b)).bind fun s=>some (s.1,p1++[s.2]))=some (gs,ps):=e
      cases e2:andO m.fst g1 (mpL p1 (a.gs.getD i an0).a) (mpL p1 (a.gs.getD i an0).b) with
      | none=>rw[e2] at e;cases e
      | some s=>
        rw[e2] at e
        have e3:some (s.1,p1++[s.2])=some (gs,ps):=e
        cases e3
        obtain⟨j1,j2,j3⟩:=Im.step ha hm k1 k2 k3 (by omega) e2
        exact⟨j1,j2,by rw[List.length_append,List.length_singleton,k3];omega,k4.trans j3⟩
def DfI (m:Nt) (gs:List An) (xs:List (Int×Int)) (s:Int):Prop:=LtOk s (m.fst+gs.length)∧∀y,(bitL (valsL (withG m gs) [] y) s=1↔∃p∈xs,bitL (valsL (withG m gs) [] y) p.1≠bitL (valsL (withG m gs) [] y) p.2)
theorem Cm {x y:Int}(hx:x=0∨x=1) (hy:y=0∨y=1):1-(1-x*(1-y))*(1-(1-x)*y)=if x=y then 0 else 1:=by
  rcases hx with rfl|rfl<;>rcases hy with rfl|rfl<;>decide
theorem Df {x y:Int}(hx:x=0∨x=1) (hy:y=0∨y=1):(1-(1-x)*(1-y)=1↔x=1∨y=1):=by
  rcases hx with rfl|rfl<;>rcases hy with rfl|rfl<;>decide
theorem DfI.step {m:Nt}(hm:m.ss.length=0) {gs:List An}{xs:List (Int×Int)}{s:Int}(h0:NtOk (withG m gs)) (h:DfI m gs xs s) (hx:∀p∈xs,LtOk p.1 (m.fst+gs.length)∧LtOk p.2 (m.fst+gs.length)) {p:Int×Int}{r u:List An×Int}(e1:xorO m.fst gs p.1 p.2=some r) (e2:orO m.fst r.1 s r.2=some u) :
    NtOk (withG m u.1)∧Ext m gs u.1∧DfI m u.1 (xs++[p]) u.2:=by
  have k1:=zJ h0 e1
  have k2:=tW k1.ok e2
  obtain⟨p1,p2⟩:=sA e1
  have hs:=h.1
  have hst:([]:List Int).length=m.ss.length:=by rw[hm];rfl
  have hE:=k1.toExt.trans k2.toExt
  refine⟨k2.ok,hE,k2.lit,fun y=>?_⟩
  have b1:=rI h0 hst y p1
  have b2:=rI h0 hst y p2
  have bs:=rI h0 hst y hs
  have vx:=k1.val [] y hst
  have vo:=k2.val [] y hst
  have ks:=k1.toExt.keep h0 hst y hs
  rw[vo]
  show 1-(1-bitL (valsL (withG m r.1) [] y) s)*(1-bitL (valsL (withG m r.1) [] y) r.2)=1↔_
  rw[ks,vx]
  show 1-(1-bitL (valsL (withG m gs) [] y) s)*(1-(1-(1-bitL (valsL (withG m gs) [] y) p.1*(1-bitL (valsL (withG m gs) [] y) p.2))*(1-(1-bitL (valsL (withG m gs) [] y) p.1)*bitL (valsL (withG m gs) [] y) p.2)))=1↔_
  rw[Cm b1 b2,Df bs (by split<;>simp),h.2 y]
  have keep:∀q:Int×Int,LtOk q.1 (m.fst+gs.length)→LtOk q.2 (m.fst+gs.length)→((bitL (valsL (withG m u.1) [] y) q.1≠bitL (valsL (withG m u.1) [] y) q.2)↔(bitL (valsL (withG m gs) [] y) q.1≠bitL (valsL (withG m gs) [] y) q.2)):=fun q c1 c2=>by
    rw[hE.keep h0 hst y c1,hE.keep h0 hst y c2]
  constructor
  · rintro (⟨q, hq, hne⟩ | hc)
    · exact⟨q,List.mem_append_left _ hq,(keep q (hx q hq).1 (hx q hq).2).2 hne⟩
    · refine ⟨p, List.mem_append_right _ (List.mem_singleton.2 rfl), (keep p p1 p2).2 (fun ee => ?_)⟩
      rw[if_pos ee] at hc;cases hc
  · rintro ⟨q, hq, hne⟩
    rcases List.mem_append.1 hq with hq|hq
    · exact .inl ⟨q,hq,(keep q (hx q hq).1 (hx q hq).2).1 hne⟩
    · rw [List.mem_singleton] at hq; subst hq
      right;rw[if_neg ((keep q p1 p2).1 hne)]
theorem DfI.start {m:Nt}{gs:List An}(h:NtOk (withG m gs)):DfI m gs [] 0:=by
  have hi:=h.i0
  have hf:m.fst=1+m.ins+m.ss.length:=rfl
  have hi2:0≤m.ins:=hi
  refine⟨⟨by omega,by omega⟩,fun y=>?_⟩
  have h0:bitL (valsL (withG m gs) [] y) 0=0:=by unfold bitL;rw[if_pos (by decide)];exact Ex (n:=withG m gs) [] y
  rw[h0];simp
theorem yR {m : Nt} (hm : m.ss.length = 0) {gs0 : List An} (h0 : NtOk (withG m gs0)) {xs : List (Int × Int)} (hx : ∀ p ∈ xs, LtOk p.1 (m.fst + gs0.length) ∧ LtOk p.2 (m.fst + gs0.length)) : ∀ (i : Nat) (gs : List An) (s : Int), i ≤ xs.length → jnO m.fst (xs.take i) gs0 0 = some (gs, s) →
    NtOk (withG m gs)∧Ext m gs0 gs∧DfI m gs (xs.take i) s
  | 0,gs,s,_,e=>by
    have e2:some (gs0,(0:Int))=some (gs,s):=e
    cases e2
    exact⟨h0,Ext.refl h0,DfI.start h0⟩
  | i+1,gs,s,hi,e=>by
    rw[eT ((0:Int),(0:Int)) (show i<xs.length by omega)] at e ⊢
    rw[nV] at e
    cases e1:jnO m.fst (xs.take i) gs0 0 with
    | none=>rw[e1] at e;cases e
    | some r=>
      obtain⟨g1,s1⟩:=r
      rw[e1] at e
      obtain⟨k1,k2,k3⟩:=yR hm h0 hx i g1 s1 (by omega) e1
      have e:((xorO m.fst g1 (xs.getD i (0,0)).1 (xs.getD i (0,0)).2).bind fun q=>orO m.fst q.1 s1 q.2)=some (gs,s):=e
      cases e2:xorO m.fst g1 (xs.getD i (0,0)).1 (xs.getD i (0,0)).2 with
      | none=>rw[e2] at e;cases e
      | some q=>
        rw[e2] at e
        have e3:orO m.fst q.1 s1 q.2=some (gs,s):=e
        obtain⟨j1,j2,j3⟩:=DfI.step hm k1 k3 (fun p hp=>by
          have:=hx p (List.mem_of_mem_take hp)
          exact⟨k2.lit this.1,k2.lit this.2⟩) e2 e3
        exact⟨j1,k2.trans j2,j3⟩
structure CmpOk (a b:Nt):Prop where
  ha:NtOk a
  hb:NtOk b
  ins:b.ins=a.ins
  ss:b.ss.length=a.ss.length
  os:b.os.length=a.os.length
  c20:a.ins+a.ss.length≤20
  kd:∀i,i<a.ss.length→(b.ss.getD i sq0).kd=(a.ss.getD i sq0).kd
def rtM (a:Nt) (ps:List Int):List Int:=(rtsL a a.ss.length).map (mpL ps)
def mitO (a b:Nt):Option (List An×Int):=(impO a.fst a.gs [] (lfO a.fst)).bind fun r=>(impO a.fst b.gs r.1 (lfO a.fst)).bind fun u=>jnO a.fst ((rtM a r.2).zip (rtM b u.2)) u.1 0
def rtV (a:Nt) (y:Int):List Int:=(rtsL a a.ss.length).map (bitL (valsL a (stB a y a.ss.length) y))
theorem Cj {f g : Int → Int} {h : Int → Int} : ∀ {xs ys : List Int}, xs.length = ys.length → ∀ {F G : Int → Int}, (∀ x ∈ xs, h (f x) = F x) → (∀ x ∈ ys, h (g x) = G x) → ((∃ p ∈ (xs.map f).zip (ys.map g), h p.1 ≠ h p.2) ↔ xs.map F ≠ ys.map G)
  | [],[],_,F,G,_,_=>by simp
  | [],y::ys,e,_,_,_,_=>by simp at e
  | x::xs,[],e,_,_,_,_=>by simp at e
  | x::xs,y::ys,e,F,G,h1,h2=>by
    have ih:=Cj (f:=f) (g:=g) (h:=h) (xs:=xs) (ys:=ys) (by simpa using e) (F:=F) (G:=G) (fun z hz=>h1 z (List.mem_cons_of_mem _ hz)) (fun z hz=>h2 z (List.mem_cons_of_mem _ hz))
    have e1:=h1 x List.mem_cons_self
    have e2:=h2 y List.mem_cons_self
    rw[List.map_cons,List.map_cons,List.zip_cons_cons,List.map_cons,List.map_cons]
    constructor
    · rintro ⟨p, hp, hne⟩ hc
      obtain⟨c1,c2⟩:=List.cons.inj hc
      rcases List.mem_cons.1 hp with rfl|hp
      · exact hne (by show h (f x)=h (g y);rw[e1,e2];exact c1)
      · exact ih.1 ⟨p,hp,hne⟩ c2
    · intro hne
      by_cases c:F x=G y
      · obtain ⟨p, hp, hd⟩ := ih.2 (fun q => hne (by rw [c, q]))
        exact⟨p,List.mem_cons_of_mem _ hp,hd⟩
      · exact⟨(f x,g y),List.mem_cons_self,by show h (f x)≠h (g y);rw[e1,e2];exact c⟩
theorem jV {a:Nt}(h:NtOk a) {x:Int}(hx:x∈rtsL a a.ss.length):LtOk x a.cnt:=by
  unfold rtsL at hx
  rw[List.take_length] at hx
  rcases List.mem_append.1 hx with hx|hx
  · exact h.ou x hx
  · obtain ⟨s, hs, hx⟩ := List.mem_flatMap.1 hx
    exact h.xs s hs x hx
theorem xA {a b:Nt}(c:CmpOk a b):∀k,k≤a.ss.length→(rtsL b k).length=(rtsL a k).length
  | 0,_=>by simp[rtsL,c.os]
  | k+1,hk=>by
    have ih:=xA c k (by omega)
    have hb:k<b.ss.length:=by rw[c.ss];omega
    rw[←iT a (by omega),←iT b hb,List.length_append,List.length_append,ih]
    have e1:=c.kd k (by omega)
    have q1:=(c.ha.sq _ (dO (es:=a.ss) (i:=k) (d:=sq0) (by omega))).kind
    have q2:=(c.hb.sq _ (dO (es:=b.ss) (i:=k) (d:=sq0) hb)).kind
    rcases q1 with⟨a1, -,a2⟩|⟨a1, -,a2⟩<;>rcases q2 with⟨b1, -,b2⟩|⟨b1, -,b2⟩<;>omega
theorem CmpOk.rts {a b:Nt}(c:CmpOk a b):(rtsL b b.ss.length).length=(rtsL a a.ss.length).length:=by rw[c.ss];exact xA c _ (Nat.le_refl _)
theorem CmpOk.fst {a b:Nt}(c:CmpOk a b):b.fst=a.fst:=by unfold Nt.fst;rw[c.ins,c.ss]
structure Imp2 (a b:Nt) (g1 g2:List An) (pa pb:List Int):Prop where
  e1:impO a.fst a.gs [] (lfO a.fst)=some (g1,pa)
  e2:impO a.fst b.gs g1 (lfO a.fst)=some (g2,pb)
  ok:NtOk (withG (mt0 a) g2)
  ia:Im a (mt0 a) g2 pa
  ib:Im b (mt0 a) g2 pb
  la:pa.length=a.cnt.toNat
  lb:pb.length=b.cnt.toNat
theorem imp1 {a:Nt}(ha:NtOk a) (h20:a.ins+a.ss.length≤20) {i:Nat}(hi:i≤a.gs.length) {g1:List An}{pa:List Int}(e:impO a.fst (a.gs.take i) [] (lfO a.fst)=some (g1,pa)) :
    NtOk (withG (mt0 a) g1)∧Im a (mt0 a) g1 pa∧pa.length=(a.fst+i).toNat∧Ext (mt0 a) [] g1:=by
  have h0:NtOk (withG (mt0 a) []):=yH ha h20
  rw[←fT a] at e
  have hl:=Im.leaf ha ha rfl rfl h20 (Ext.refl h0)
  rw[fT a] at e
  exact yT ha rfl h0 hl (uE _) i g1 pa hi (by rw[fT];exact e)
theorem imp2 {a b:Nt}(c:CmpOk a b) {g1:List An}{pa:List Int}(e:impO a.fst a.gs [] (lfO a.fst)=some (g1,pa)) {i:Nat}(hi:i≤b.gs.length) {g2:List An}{pb:List Int}(e2:impO a.fst (b.gs.take i) g1 (lfO a.fst)=some (g2,pb)) :
    NtOk (withG (mt0 a) g2)∧Im b (mt0 a) g2 pb∧pb.length=(b.fst+i).toNat∧Ext (mt0 a) g1 g2:=by
  obtain⟨h1,h2,h3,h4⟩:=imp1 c.ha c.c20 (i:=a.gs.length) (Nat.le_refl _) (by rw[List.take_length];exact e)
  have hl:=Im.leaf c.ha c.hb c.ins c.ss c.c20 h4
  have hf:=c.fst
  exact yT c.hb rfl h1 hl (uE _) i g2 pb hi (by rw[fT,hf];exact e2)
theorem Imp2.of {a b:Nt}(c:CmpOk a b) {g1 g2:List An}{pa pb:List Int}(e1:impO a.fst a.gs [] (lfO a.fst)=some (g1,pa)) (e2:impO a.fst b.gs g1 (lfO a.fst)=some (g2,pb)):Imp2 a b g1 g2 pa pb:=by
  obtain⟨h1,h2,h3,h4⟩:=imp1 c.ha c.c20 (i:=a.gs.length) (Nat.le_refl _) (by rw[List.take_length];exact e1)
  obtain⟨k1,k2,k3,k4⟩:=imp2 c e1 (i:=b.gs.length) (Nat.le_refl _) (by rw[List.take_length];exact e2)
  exact⟨e1,e2,k1,h2.ext rfl h1 k4,k2,by rw[h3];rfl,by rw[k3];rfl⟩
theorem Imp2.lits {a b:Nt}(c:CmpOk a b) {g1 g2:List An}{pa pb:List Int}(h:Imp2 a b g1 g2 pa pb):∀p∈(rtM a pa).zip (rtM b pb),LtOk p.1 ((mt0 a).fst+g2.length)∧LtOk p.2 ((mt0 a).fst+g2.length):=fun p hp=>by
  obtain⟨h1,h2⟩:=List.of_mem_zip (a:=p.1) (b:=p.2) hp
  have hai:=c.ha.i0
  have hbi:=c.hb.i0
  obtain⟨x,hx,ex⟩:=List.mem_map.1 h1
  obtain⟨y,hy,ey⟩:=List.mem_map.1 h2
  have lx:=jV c.ha hx
  have ly:=jV c.hb hy
  have c1:a.cnt=1+a.ins+a.ss.length+a.gs.length:=rfl
  have c2:b.cnt=1+b.ins+b.ss.length+b.gs.length:=rfl
  rw[←ex,←ey]
  exact⟨(h.ia.lit lx.1 (by rw[h.la];have:=lx.2;omega)).1,(h.ib.lit ly.1 (by rw[h.lb];have:=ly.2;omega)).1⟩
theorem Do {a b:Nt}(c:CmpOk a b) {r:List An×Int}(e:mitO a b=some r):NtOk (withG (mt0 a) r.1)∧LtOk r.2 ((mt0 a).fst+r.1.length)∧∀y,(bitL (valsL (withG (mt0 a) r.1) [] y) r.2=1↔rtV a y≠rtV b y):=by
  unfold mitO at e
  cases e1:impO a.fst a.gs [] (lfO a.fst) with
  | none=>rw[e1] at e;cases e
  | some r1=>
    obtain⟨g1,pa⟩:=r1
    rw[e1] at e
    have e:((impO a.fst b.gs g1 (lfO a.fst)).bind fun u=>jnO a.fst ((rtM a pa).zip (rtM b u.2)) u.1 0)=some r:=e
    cases e2:impO a.fst b.gs g1 (lfO a.fst) with
    | none=>rw[e2] at e;cases e
    | some r2=>
      obtain⟨g2,pb⟩:=r2
      rw[e2] at e
      have e:jnO a.fst ((rtM a pa).zip (rtM b pb)) g2 0=some r:=e
      have hI:=Imp2.of c e1 e2
      have hl:=hI.lits c
      obtain⟨gs,s⟩:=r
      obtain⟨j1,j2,j3⟩:=yR (m:=mt0 a) rfl hI.ok hl ((rtM a pa).zip (rtM b pb)).length gs s (Nat.le_refl _) (by rw[List.take_length,fT];exact e)
      rw[List.take_length] at j3
      refine⟨j1,j3.1,fun y=>?_⟩
      rw[j3.2 y]
      have hai:=c.ha.i0
      have hbi:=c.hb.i0
      have c1:a.cnt=1+a.ins+a.ss.length+a.gs.length:=rfl
      have c2:b.cnt=1+b.ins+b.ss.length+b.gs.length:=rfl
      have hA:=hI.ia.ext rfl hI.ok j2
      have hB:=hI.ib.ext rfl hI.ok j2
      exact Cj (h:=bitL (valsL (withG (mt0 a) gs) [] y)) c.rts.symm (fun x hx=>(hA.lit (jV c.ha hx).1 (by rw[hI.la];have:=(jV c.ha hx).2;omega)).2 y) (fun x hx=>(hB.lit (jV c.hb hx).1 (by rw[hI.lb];have:=(jV c.hb hx).2;omega)).2 y)
theorem xH (b:Nat) (n:Nt) (x y:Int) (w0:World) (l:List HP) (w:World) (hm0:Mem w0 (nB9 b n::rS9 67 2 n.av n.gs anC::l) w) (hn:NtOk (withG n n.gs)) (hx:LtOk x (n.fst+n.gs.length)) (hy:LtOk y (n.fst+n.gs.length)) (hso:∀w,Mem w0 l w→RdsW w n.sv 3 n.ss.length (n.ss.flatMap sqC)∧(∀s∈n.ss,RdsW w s.iv 1 s.xs.length (s.xs.map (Value.int .i64)))∧RdsW w n.ov 1 n.os.length (n.os.map (Value.int .i64))) (hone:n.sv.oneCell'=true∧n.ov.oneCell'=true) :
   Calls Tryz.prog 49 #[.pointer (some ⟨b,0,none⟩),.int .i64 x,.int .i64 y] w (fun e_ w_=>∃v_ p_,e_=.returned v_∧(fun u_ p_=>∃z v_ g_,u_=.int .i64 z∧p_=netP b n v_ g_∧OpR n n.gs g_ (andO n.fst n.gs x y) z) v_ p_∧Mem w0 (p_::l) w_):=by
 have hi0:0≤n.ins:=hn.i0
 have hi1:n.ins≤20:=hn.i1
 have hs1:n.ss.length≤12:=hn.s1
 have ha1:n.gs.length≤300:=hn.a1
 have hf:n.fst=1+n.ins+n.ss.length:=rfl
 have hmx:(if x<y then y else x)=max x y:=by split<;>omega
 obtain⟨hx0,hx1⟩:=id hx
 obtain⟨hy0,hy1⟩:=id hy
 refine fW (N:=86) (args:=[pI b,jI x,jI y]) Tryz.func49 A A hm0 (bD 1 A (fM (aC (bZ 1 A ?_))))
 refine cM A A A A A A (fun h1=>?_) (fun h1=>?_)
 refine aU 11 A (aR A (aC (bZ 1 A ?_)))
 refine bR ?_
 refine aV (aQ ?_)
 refine aL (aZ 2 [1,0] A A (by decide) ?_)
 refine cZ (netP b n n.av n.gs::l) (fN (ps:=[nB9 b n,rS9 67 2 n.av n.gs anC])) ?_
 exact eG (rs:=[.tmp 6]) (vs:=[jI 0]) A ⟨A,trivial⟩ A (fun w hm=>⟨_,netP b n n.av n.gs,A,⟨_,_,_,A,A,.of hn (jN hx hy (by first|exact .inl (by omega)|exact .inr (.inl (by omega))|exact .inr (.inr (by omega))))⟩,hm.sub (.refl _)⟩)
 refine aM 2 A (cM A A A A A A (fun h2=>?_) (fun h2=>?_))
 refine aU 8 A (aR A (cF (dJ 1 A ?_)))
 refine bF (aV ?_)
 refine aQ (aL ?_)
 refine aZ 2 [1,0] A A (by decide) ?_
 refine cZ (netP b n n.av n.gs::l) (fN (ps:=[nB9 b n,rS9 67 2 n.av n.gs anC])) ?_
 exact eG (rs:=[.tmp 6]) (vs:=[jI 0]) A ⟨A,trivial⟩ A (fun w hm=>⟨_,netP b n n.av n.gs,A,⟨_,_,_,A,A,.of hn (jN hx hy (by first|exact .inl (by omega)|exact .inr (.inl (by omega))|exact .inr (.inr (by omega))))⟩,hm.sub (.refl _)⟩)
 refine aM 3 A (aP A (cP A (by decide) A A (r:=xr x) (iB hx0 (by omega))) (aM 1 A ?_))
 refine cM A A A A A A (fun h3=>?_) (fun h3=>?_)
 refine aU 2 A (aR A (bD 1 A ?_))
 refine aV (aQ ?_)
 refine aL (aZ 2 [1,0] A A (by decide) ?_)
 refine cZ (netP b n n.av n.gs::l) (fN (ps:=[nB9 b n,rS9 67 2 n.av n.gs anC])) ?_
 exact eG (rs:=[.tmp 6]) (vs:=[jI 0]) A ⟨A,trivial⟩ A (fun w hm=>⟨_,netP b n n.av n.gs,A,⟨_,_,_,A,A,.of hn (jN hx hy (by first|exact .inl (by omega)|exact .inr (.inl (by omega))|exact .inr (.inr (by omega))))⟩,hm.sub (.refl _)⟩)
 refine aU 2 A (aS A (aC (bZ 1 A ?_)))
 refine cM A A A A A A (fun h4=>?_) (fun h4=>?_)
 refine aU 6 A (aR A (bD 2 A ?_))
 refine aV (aQ ?_)
 refine aL (aZ 2 [1,0] A A (by decide) ?_)
 refine cZ (netP b n n.av n.gs::l) (fN (ps:=[nB9 b n,rS9 67 2 n.av n.gs anC])) ?_
 exact eG (rs:=[.tmp 6]) (vs:=[jI y]) A ⟨A,trivial⟩ A (fun w hm=>⟨_,netP b n n.av n.gs,A,⟨_,_,_,A,A,.of hn (uY hx hy (by omega) (by omega))⟩,hm.sub (.refl _)⟩)
 refine aM 3 A (cM A A A A A A (fun h5=>?_) (fun h5=>?_))
 refine aU 2 A (aR A (bD 2 A ?_))
 refine aV (aQ ?_)
 refine aL (aZ 2 [1,0] A A (by decide) ?_)
 refine cZ (netP b n n.av n.gs::l) (fN (ps:=[nB9 b n,rS9 67 2 n.av n.gs anC])) ?_
 exact eG (rs:=[.tmp 6]) (vs:=[jI y]) A ⟨A,trivial⟩ A (fun w hm=>⟨_,netP b n n.av n.gs,A,⟨_,_,_,A,A,.of hn (uY hx hy (by omega) (by omega))⟩,hm.sub (.refl _)⟩)
 refine aU 2 A (aS A (aC (bZ 1 A ?_)))
 refine cM A A A A A A (fun h6=>?_) (fun h6=>?_)
 refine aU 1 A (aR A (bD 2 A ?_))
 refine aV (aQ ?_)
 refine aL (aZ 2 [1,0] A A (by decide) ?_)
 refine cZ (netP b n n.av n.gs::l) (fN (ps:=[nB9 b n,rS9 67 2 n.av n.gs anC])) ?_
 exact eG (rs:=[.tmp 6]) (vs:=[jI x]) A ⟨A,trivial⟩ A (fun w hm=>⟨_,netP b n n.av n.gs,A,⟨_,_,_,A,A,.of hn (Er hx hy (by omega) (by omega) (by omega))⟩,hm.sub (.refl _)⟩)
 refine aU 1 A (hH A (cK (aC (bZ 2 A (aP A (oH A A A) (aM 2 A (aP A (tP A A A) ?_)))))))
 refine aP A (dQ (cs:=#[jI (min x y),jI (if x<y then y else x)]) A A A) (cR A (bP (z:=.agg #[jI 0,jI 0]) A A) ?_)
 intro b7
 refine bI (cs':=#[jI (min x y),jI (if x<y then y else x)]) (i:=0) (off:=0) (us:=[jI (min x y),jI (if x<y then y else x)]) A A A A A A A (aA A (aA A bA)) A A A (bR (aC (aC (bZ 1 A (aP A (dV A A) (aP A (cQ 2 A A A) (aP A (aN A A A (aH 1 A A)) (aP A (bC A Tryz.underlying25 A (aG 2 A)) (dJ 1 A ?_)))))))))
 refine bF (bE ?_)
 refine hO (α:=Nat) [0,1,2,6,7,10,23,32,46,47] A (fun i=>(boxE b7 #[jI (min x y),jI (if x<y then y else x)] 67::nB9 b n::rS9 67 2 n.av n.gs anC::l)) (fun i=>[(48,jI (i:Int))]) (fun i=>i≤n.gs.length∧∀q,q<i→¬((n.gs.getD q an0).a=min x y∧(n.gs.getD q an0).b=max x y)) (fun i=>n.gs.length-i) 0 ⟨Nat.zero_le _,fun q hq=>absurd hq (Nat.not_lt_zero _)⟩ (cT A) (.refl _) ?_
 intro i hi8
 obtain⟨hi,hno⟩:=hi8
 refine cF ?_
 refine bQ A A A A A A (fun h9=>?_) (fun h9=>?_)
 refine bR (nF A (bY (fM (aC (bZ 1 A (aP A (dF 2 A A A A (aG 2 A)) ?_))))))
 refine aP A (eI (us:=[jI ((n.gs.getD i an0).a),jI ((n.gs.getD i an0).b)]) A A A A (aG 2 A) (by omega) A (fC anC 2 (fun _=>A) n.gs an0 (show i<_ by omega) A)) (cR A (bP (z:=.agg #[jI 0,jI 0]) A A) ?_)
 intro b10
 refine aM 1 A (bI (cs':=#[jI ((n.gs.getD i an0).a),jI ((n.gs.getD i an0).b)]) (i:=0) (off:=0) (us:=[jI ((n.gs.getD i an0).a),jI ((n.gs.getD i an0).b)]) A A A A A A A (aA A (aA A bA)) A A A ?_)
 refine bR (cF (aP A (aF (cs:=[jI (min x y),jI (if x<y then y else x)]) A A A A A (aD 1 A 0 A)) (aP A (aF (cs:=[jI ((n.gs.getD i an0).a),jI ((n.gs.getD i an0).b)]) A A A A A (aD 0 A 0 A)) (aP A (tQ A A A) ?_))))
 refine bW (fun h11=>?_) (fun h11=>?_)
 obtain⟨hq1,hq2⟩:=Ah h11
 refine bR (aR A (aC (bZ 1 A (aP A (dV A A) (aP A (aF (cs:=[jI n.ins,n.sv,n.av,n.ov]) A A A A A (aD 2 A 0 A)) ?_)))))
 refine dA A (aJ A A (fun w hm=>aY (gH ({ n with av:=n.av,gs:=n.gs }:Nt) w (let h9:=hso w (hm.sub (kE 4 A));⟨h9.1,h9.2.1,aG 3 A w hm,h9.2.2⟩) (zS hn)))) (aM 1 A (aP A (dM A A A) (aP A (fO A A A (by constructor<;>omega)) (aU 1 A ?_))))
 refine aV (aQ ?_)
 refine fL ?_
 refine aQ (aL ?_)
 refine aZ 4 [3,2] A A (by decide) ?_
 refine cZ (netP b n n.av n.gs::l) (fN (ps:=[nB9 b n,rS9 67 2 n.av n.gs anC])) ?_
 exact eG (rs:=[.tmp 6]) (vs:=[jI (2*(n.fst+(i:Int)))]) A ⟨A,trivial⟩ A (fun w hm=>⟨_,netP b n n.av n.gs,A,⟨_,_,_,A,A,.of hn (xF hx hy (by omega) (by omega) (by omega) (by omega) ⟨hq1.symm,by rw[←hq2];exact hmx⟩ hno)⟩,hm.sub (.refl _)⟩)
 have hqn:=Ee h11
 refine bR (hH A (cK (bJ (aP A (dM A A A) (dJ 1 A ?_)))))
 exact cU (i+1) ⟨by omega,fun q hq=>by by_cases e9:q=i;(subst e9;exact fun h9=>hqn ⟨h9.1.symm,by rw[h9.2];exact hmx⟩);exact hno q (by omega)⟩ (by omega) (cT rfl) (.cons _ (.refl _))
 refine bR (nG A ?_)
 refine bM (dI ?_)
 refine aO (bF (aC (aC (bZ 1 A (aP A (dV A A) (aP A (cQ 2 A A A) (aP A (aN A A A (aH 1 A A)) (aP A (bC A Tryz.underlying25 A (aG 2 A)) ?_))))))))
 refine gO A A A A A A (fun h12=>?_) (fun h12=>?_)
 refine bR (aR A (bD 1 A ?_))
 refine aV (aL ?_)
 refine aZ 3 [2,1] A A (by decide) ?_
 refine cZ (netP b n n.av n.gs::l) (fN (ps:=[nB9 b n,rS9 67 2 n.av n.gs anC])) ?_
 exact eG (rs:=[.tmp 6]) (vs:=[jI (-1)]) A ⟨A,trivial⟩ A (fun w hm=>⟨_,netP b n n.av n.gs,A,⟨_,_,_,A,A,.no hn (mJ hx hy (by omega) (by omega) (by omega) (fun q hq=>hno q (by omega)) (by omega)) (by omega)⟩,hm.sub (.refl _)⟩)
 refine bR (aS A (bY (aC ?_)))
 refine eE 3 [1,0,2] A A (by decide) ?_
 refine eF (l:=(boxE b7 #[jI (min x y),jI (if x<y then y else x)] 67::nB9 b n::l)) A 8 [0,1,2,3,4,5,6,7] (List.take 8 _) (List.drop 8 _) [[],[],[1],[2],[3],[],[5],[4,6]] [some 70,some 71,some 72,some 73,some 74,some 75,some 76,some 77] (fun i_ vs_ v_ p_=>match i_ with|0=>v_=pI b∧p_=[]|1=>v_=pI b∧p_=[]|2=>v_=pI b∧p_=[]|3=>v_=.pointer (some ⟨b,0+2,none⟩)∧p_=[]|4=>v_=n.av∧p_=[]|5=>v_=.agg #[jI (min x y),jI (if x<y then y else x)]∧p_=[]|6=>IsRow 67 2 1 (mI [min x y,(if x<y then y else x)]) v_ p_|7=>(∃pm_,p_=[pm_]∧(fun u_ p_=>p_=rowE 67 2 u_ ((n.gs++[An.mk (min x y) (if x<y then y else x)]).length) ((n.gs++[An.mk (min x y) (if x<y then y else x)]).flatMap anC)) v_ pm_)|_=>True) [[],[],[1],[2],[3],[],[5],[4,6]] [none,none,none,none,none,none,none,some 11] [[rS9 67 2 n.av n.gs anC]] [0,1,2,3,4,5,6,7] 11 (List.take_append_drop 8 _).symm (by kernel_rfl) (by kernel_rfl) (by kernel_rfl) A A ?_ ?_
 refine⟨?_,?_,?_,?_,?_,?_,?_,?_,trivial⟩
 intro vf pf hmu hR
 refine bL [] [] A (bH (aI [0] A) ?_)
 exact aT (aK A)
 intro vf pf hmu hR
 refine bL [] [] A (bH (aI [0] A) ?_)
 exact aT (aK A)
 intro vf pf hmu hR
 have e1:=hR 1 (by decide)
 refine bL [1] [1] A (bH (sk 71 (congrArg some e1.1) (aB _)) ?_)
 exact aT (dV A A)
 intro vf pf hmu hR
 have e2:=hR 2 (by decide)
 refine bL [2] [2] A (bH (sk 72 (congrArg some e2.1) (aB _)) ?_)
 exact aT (cQ 2 A A A)
 intro vf pf hmu hR
 have e3:=hR 3 (by decide)
 refine bL [3] [3] A (aW (sk 73 (congrArg some e3.1) (aB _)) (List.sublist_append_right _ _) ?_)
 exact aT (aN A A A (aH 1 A A))
 intro vf pf hmu hR
 refine bL [] [] A (aW (aI [7] A) (List.sublist_append_right _ _) ?_)
 exact aT (aF (cs:=[jI (min x y),jI (if x<y then y else x)]) A A A A A (aD 0 A 0 A))
 intro vf pf hmu hR
 have e5:=hR 5 (by decide)
 refine bL [5] [5] A (aW (sk 75 (congrArg some e5.1) (aB _)) (List.sublist_append_right _ _) ?_)
 exact bB (z:=.agg #[jI 0,jI 0]) (s:=2) (cs:=(mI [min x y,(if x<y then y else x)])) A Tryz.underlying25 A (by decide) A (by kernel_rfl) A
 intro vf pf hmu hR
 have e4:=hR 4 (by decide)
 have e6:IsRow 67 2 1 (mI [min x y,(if x<y then y else x)]) (vf 6) (pf 6):=hR 6 (by decide)
 obtain⟨g13,vE6,pE6⟩:=e6
 refine Or.inl ⟨A,?_⟩
 show RunM _ _ _ (pf 11) (([4,6]:List Nat).flatMap pf++_) (envOf3 _ vf [4,6]++_) _ _
 have hmu0:pf 11=[rS9 67 2 n.av n.gs anC]:=hmu 0 (show 0<1 by omega)
 rw[hmu0]
 exact cV (sk 74 (congrArg some e4.1) (sk 76 (congrArg some vE6) (aB _))) (by simp only[pE6,vE6,e4.2,fS]<;>rfl) (gV (d:=0) (z:=.agg #[jI 0,jI 0]) (bytes:=16) (n':=(n.gs++[An.mk (min x y) (if x<y then y else x)]).length) (xs':=((n.gs++[An.mk (min x y) (if x<y then y else x)]).flatMap anC)) A Tryz.underlying25 A A A A (aG 0 A) (cO _) (by first|omega|(simp only[List.length_append,List.length_cons,List.length_nil];omega)) (cH n.gs [An.mk (min x y) (if x<y then y else x)]) (dY anC n.gs (An.mk (min x y) (if x<y then y else x)) _ A))
 intro vf pf hmu hR
 have e0:=hR 0 (by decide)
 have e6:IsRow 67 2 1 (mI [min x y,(if x<y then y else x)]) (vf 6) (pf 6):=hR 6 (by decide)
 obtain⟨g13,vE6,pE6⟩:=e6
 have e7:(∃pm_,(pf 7)=[pm_]∧(fun u_ p_=>p_=rowE 67 2 u_ ((n.gs++[An.mk (min x y) (if x<y then y else x)]).length) ((n.gs++[An.mk (min x y) (if x<y then y else x)]).flatMap anC)) (vf 7) pm_):=hR 7 (by decide)
 obtain⟨p15,pE7,R16⟩:=e7
 obtain⟨v14,vE7⟩:∃x,vf 7=x:=⟨_,rfl⟩
 rw[vE7] at R16
 subst R16
 have q0:=hR 0 (by decide)
 have q1:=hR 1 (by decide)
 have q2:=hR 2 (by decide)
 have q3:=hR 3 (by decide)
 have q4:=hR 4 (by decide)
 have q5:=hR 5 (by decide)
 refine cE (bO [69,49,48,47,46,32,23,10,7,6,2,1,0] _ (sk 70 (congrArg some e0.1) (sk 77 (congrArg some vE7) (aB _))) A) (by simp only[pE6,vE6,pE7,vE7,q0.2,q1.2,q2.2,q3.2,q4.2,q5.2,fS]<;>rfl) ?_
 simp only[List.drop_succ_cons,List.drop_zero]
 refine aP A (dV A A) (aP A (cQ 2 A A A) ?_)
 refine dZ (i:=1) A (fun ho17=>?_)
 refine fI (i:=3) (cs':=#[jI n.ins,n.sv,v14,n.ov]) A A A A A A ho17 A A A A (bR (cF ?_))
 have hnew2:AddOk n n.gs (n.gs++[An.mk (min x y) (if x<y then y else x)]) (2*(n.fst+n.gs.length)) 1 (fAnd x y):=by rw[hmx];exact Av hn hx hy (by omega)
 have hlen9:(n.gs++[An.mk (min x y) (if x<y then y else x)]).length=n.gs.length+1:=by simp
 have hcnt9:({ n with av:=v14,gs:=n.gs++[An.mk (min x y) (if x<y then y else x)] }:Nt).cnt=n.fst+(n.gs++[An.mk (min x y) (if x<y then y else x)]).length:=rfl
 refine aM 1 A (aP A (dV A A) (aP A (aF (cs:=[jI n.ins,n.sv,v14,n.ov]) A A A A A (aD 3 A 0 A)) ?_))
 refine dA A (aJ A A (fun w hm=>aY (eU ({ n with av:=v14,gs:=n.gs++[An.mk (min x y) (if x<y then y else x)] }:Nt) w (let h9:=hso w (hm.sub (kE 4 A));⟨h9.1,h9.2.1,aG 1 A w hm,h9.2.2⟩) (zS hnew2.ok)))) (aP A (iM A A A) (aP A (fO A A A (by constructor<;>omega)) (aU 1 A ?_)))
 refine aV (aZ 4 [1,3] A A (by decide) ?_)
 refine cZ (netP b n v14 (n.gs++[An.mk (min x y) (if x<y then y else x)])::l) (fN (ps:=[boxE b #[jI n.ins,n.sv,v14,n.ov] 28,rowE 67 2 v14 ((n.gs++[An.mk (min x y) (if x<y then y else x)]).length) ((n.gs++[An.mk (min x y) (if x<y then y else x)]).flatMap anC)])) ?_
 exact eG (rs:=[.tmp 6]) (vs:=[jI (2*((n.fst+(n.gs++[An.mk (min x y) (if x<y then y else x)]).length)-1))]) A ⟨A,trivial⟩ A (fun w hm=>⟨_,netP b n v14 (n.gs++[An.mk (min x y) (if x<y then y else x)]),A,⟨_,_,_,A,A,(by rw[show(2*((n.fst+(n.gs++[An.mk (min x y) (if x<y then y else x)]).length)-1))=2*(n.fst+(n.gs.length:Int)) by omega,hmx];exact .of hn (xE hx hy (by omega) (by omega) (by omega) (fun q hq=>hno q (by omega)) (by omega)))⟩,hm.sub (.refl _)⟩)
theorem OpR.like {n:Nt}{v:Value}{g0 g g2:List An}{o:Option (List An×Int)}{z:Int}(h:OpR { n with av:=v,gs:=g0 } g g2 o z):OpR n g g2 o z:=⟨⟨h.ex.ext,⟨h.ex.ok.i0,h.ex.ok.i1,h.ex.ok.s1,h.ex.ok.a1,h.ex.ok.o1,h.ex.ok.sq,h.ex.ok.xs,h.ex.ok.an,h.ex.ok.ou⟩⟩,h.res⟩
theorem lB (b:Nat) (n:Nt) (v:Value) (g:List An) (x y:Int) (w0:World) (l:List HP) (w:World) (hm0:Mem w0 (netP b n v g::l) w) (hn:NtOk (withG n g)) (hx:LtOk x (n.fst+g.length)) (hy:LtOk y (n.fst+g.length)) (hso:∀w,Mem w0 l w→RdsW w n.sv 3 n.ss.length (n.ss.flatMap sqC)∧(∀s∈n.ss,RdsW w s.iv 1 s.xs.length (s.xs.map (Value.int .i64)))∧RdsW w n.ov 1 n.os.length (n.os.map (Value.int .i64))) (hone:n.sv.oneCell'=true∧n.ov.oneCell'=true) :
    Calls Tryz.prog 49 #[.pointer (some ⟨b,0,none⟩),.int .i64 x,.int .i64 y] w (fun e_ w_=>∃v_ p_,e_=.returned v_∧(fun u_ p_=>∃z v_ g_,u_=.int .i64 z∧p_=netP b n v_ g_∧OpR n g g_ (andO n.fst g x y) z) v_ p_∧Mem w0 (p_::l) w_):=by
  refine(xH b { n with av:=v,gs:=g } x y w0 l w hm0.unbig ⟨hn.i0,hn.i1,hn.s1,hn.a1,hn.o1,hn.sq,hn.xs,hn.an,hn.ou⟩ hx hy hso hone).mono ?_
  rintro e w' ⟨u,p,rfl,⟨z,v2,g2,rfl,rfl,ha⟩,hm⟩
  exact⟨_,_,rfl,⟨z,v2,g2,rfl,rfl,ha.like⟩,hm⟩
theorem rJ (b:Nat) (n:Nt) (v:Value) (g:List An) (x y:Int) (w0:World) (l:List HP) (w:World) (hm0:Mem w0 (netP b n v g::l) w) (hn:NtOk (withG n g)) (hx:LtOk x (n.fst+g.length)) (hy:LtOk y (n.fst+g.length)) (hso:∀w,Mem w0 l w→RdsW w n.sv 3 n.ss.length (n.ss.flatMap sqC)∧(∀s∈n.ss,RdsW w s.iv 1 s.xs.length (s.xs.map (Value.int .i64)))∧RdsW w n.ov 1 n.os.length (n.os.map (Value.int .i64))) (hone:n.sv.oneCell'=true∧n.ov.oneCell'=true) :
   Calls Tryz.prog 54 #[.pointer (some ⟨b,0,none⟩),.int .i64 x,.int .i64 y] w (fun e_ w_=>∃v_ p_,e_=.returned v_∧(fun u_ p_=>∃z v_ g_,u_=.int .i64 z∧p_=netP b n v_ g_∧OpR n g g_ (orO n.fst g x y) z) v_ p_∧Mem w0 (p_::l) w_):=by
 have hi0:0≤n.ins:=hn.i0
 have hi1:n.ins≤20:=hn.i1
 have hs1:n.ss.length≤12:=hn.s1
 have ha1:g.length≤300:=hn.a1
 have hf:n.fst=1+n.ins+n.ss.length:=rfl
 obtain⟨hx0,hx1⟩:=id hx
 obtain⟨hy0,hy1⟩:=id hy
 refine fW (N:=18) (args:=[pI b,jI x,jI y]) Tryz.func54 A A hm0 (bD 1 A (aC (bZ 2 A (aP A (cP A (by decide) A A (r:=xr x) (iB (by omega) (by omega))) (aM 1 A (aP A (cP A (by decide) A A (r:=xr y) (iB (by omega) (by omega))) ?_))))))
 refine gK (R:=(fun u_ p_=>∃z v_ g_,u_=jI z∧p_=netP b n v_ g_∧OpR n g g_ (andO n.fst g (xr x) (xr y)) z)) 0 A A A A A (fun L w hX hm=>lB b n v g (xr x) (xr y) _ _ _ hm hn (iZ hx) (iZ hy) (fun w hm=>hso w (hX w hm)) hone) ?_
 intro v1 p2 R3
 obtain⟨z3,v3,g3,rfl,rfl,o3⟩:=R3
 have l3:g3.length≤300:=o3.ex.ok.a1
 have r3:z3<0∨LtOk z3 (n.fst+g3.length):=by rcases o3.res with q9|q9;exact .inr q9.2;exact .inl q9.2
 unfold LtOk at r3
 refine eC (l':=(netP b n v3 g3::l)) A ?_
 refine aU 1 A (aC (aC (bZ 1 A ?_)))
 refine bQ A A A A A A (fun h4=>?_) (fun h4=>?_)
 refine bR (aR A (bD 1 A ?_))
 refine aV (aL ?_)
 exact eG (rs:=[.tmp 6]) (vs:=[jI (-1)]) A ⟨A,trivial⟩ A (fun w hm=>⟨_,netP b n v3 g3,A,⟨_,_,_,A,A,o3.orn (by omega) (by omega)⟩,hm.sub (.refl _)⟩)
 refine bR (aS A (bY (aC (bZ 1 A (aP A (cP A (by decide) A A (r:=xr z3) (iB (by omega) (by omega))) (aU 1 A ?_))))))
 exact aV (eG (rs:=[.tmp 6]) (vs:=[jI (xr z3)]) A ⟨A,trivial⟩ A (fun w hm=>⟨_,netP b n v3 g3,A,⟨_,_,_,A,A,o3.orr (by omega)⟩,hm.sub (.refl _)⟩))
theorem xG (b:Nat) (n:Nt) (v:Value) (g:List An) (x y:Int) (w0:World) (l:List HP) (w:World) (hm0:Mem w0 (netP b n v g::l) w) (hn:NtOk (withG n g)) (hx:LtOk x (n.fst+g.length)) (hy:LtOk y (n.fst+g.length)) (hso:∀w,Mem w0 l w→RdsW w n.sv 3 n.ss.length (n.ss.flatMap sqC)∧(∀s∈n.ss,RdsW w s.iv 1 s.xs.length (s.xs.map (Value.int .i64)))∧RdsW w n.ov 1 n.os.length (n.os.map (Value.int .i64))) (hone:n.sv.oneCell'=true∧n.ov.oneCell'=true) :
   Calls Tryz.prog 53 #[.pointer (some ⟨b,0,none⟩),.int .i64 x,.int .i64 y] w (fun e_ w_=>∃v_ p_,e_=.returned v_∧(fun u_ p_=>∃z v_ g_,u_=.int .i64 z∧p_=netP b n v_ g_∧OpR n g g_ (xorO n.fst g x y) z) v_ p_∧Mem w0 (p_::l) w_):=by
 have hi0:0≤n.ins:=hn.i0
 have hi1:n.ins≤20:=hn.i1
 have hs1:n.ss.length≤12:=hn.s1
 have ha1:g.length≤300:=hn.a1
 have hf:n.fst=1+n.ins+n.ss.length:=rfl
 obtain⟨hx0,hx1⟩:=id hx
 obtain⟨hy0,hy1⟩:=id hy
 refine fW (N:=27) (args:=[pI b,jI x,jI y]) Tryz.func53 A A hm0 (bD 1 A (aC (bZ 3 A (aP A (cP A (by decide) A A (r:=xr y) (iB (by omega) (by omega))) ?_))))
 refine gK (R:=(fun u_ p_=>∃z v_ g_,u_=jI z∧p_=netP b n v_ g_∧OpR n g g_ (andO n.fst g x (xr y)) z)) 0 A A A A A (fun L w hX hm=>lB b n v g x (xr y) _ _ _ hm hn hx (iZ hy) (fun w hm=>hso w (hX w hm)) hone) ?_
 intro v1 p2 R3
 obtain⟨z3,v3,g3,rfl,rfl,o3⟩:=R3
 have l3:g3.length≤300:=o3.ex.ok.a1
 have r3:z3<0∨LtOk z3 (n.fst+g3.length):=by rcases o3.res with q9|q9;exact .inr q9.2;exact .inl q9.2
 unfold LtOk at r3
 refine eC (l':=(netP b n v3 g3::l)) A ?_
 refine aU 1 A (aC (aC (bZ 1 A ?_)))
 refine bQ A A A A A A (fun h4=>?_) (fun h4=>?_)
 refine bR (aR A (bD 1 A ?_))
 refine aV (aL ?_)
 exact eG (rs:=[.tmp 6]) (vs:=[jI (-1)]) A ⟨A,trivial⟩ A (fun w hm=>⟨_,netP b n v3 g3,A,⟨_,_,_,A,A,.pair1 o3 (by omega) (by omega)⟩,hm.sub (.refl _)⟩)
 refine bR (aS A (bY (aC (bZ 2 A (aP A (cP A (by decide) A A (r:=xr x) (iB (by omega) (by omega))) (aM 1 A ?_))))))
 refine gK (R:=(fun u_ p_=>∃z v_ g_,u_=jI z∧p_=netP b n v_ g_∧OpR n g3 g_ (andO n.fst g3 (xr x) y) z)) 0 A A A A A (fun L w hX hm=>lB b n v3 g3 (xr x) y _ _ _ hm o3.ex.ok (iZ (o3.ex.lit hx)) (o3.ex.lit hy) (fun w hm=>hso w (hX w hm)) hone) ?_
 intro v5 p6 R7
 obtain⟨z7,v7,g7,rfl,rfl,o7⟩:=R7
 have l7:g7.length≤300:=o7.ex.ok.a1
 have r7:z7<0∨LtOk z7 (n.fst+g7.length):=by rcases o7.res with q9|q9;exact .inr q9.2;exact .inl q9.2
 unfold LtOk at r7
 refine eC (l':=(netP b n v7 g7::l)) A ?_
 refine aU 1 A (aC (aC (bZ 1 A ?_)))
 refine bQ A A A A A A (fun h8=>?_) (fun h8=>?_)
 refine bR (aR A (bD 1 A ?_))
 refine aV (aL ?_)
 exact eG (rs:=[.tmp 6]) (vs:=[jI (-1)]) A ⟨A,trivial⟩ A (fun w hm=>⟨_,netP b n v7 g7,A,⟨_,_,_,A,A,.pair2 o3 (by omega) o7 (by omega) (by omega)⟩,hm.sub (.refl _)⟩)
 refine bR (aS A (bY (aC (bZ 3 A ?_))))
 refine gK (R:=(fun u_ p_=>∃z v_ g_,u_=jI z∧p_=netP b n v_ g_∧OpR n g7 g_ (orO n.fst g7 z3 z7) z)) 0 A A A A A (fun L w hX hm=>rJ b n v7 g7 z3 z7 _ _ _ hm o7.ex.ok (o7.ex.lit (o3.pos (by assumption)).2) (o7.pos (by assumption)).2 (fun w hm=>hso w (hX w hm)) hone) ?_
 intro v9 p10 R11
 obtain⟨z11,v11,g11,rfl,rfl,o11⟩:=R11
 have l11:g11.length≤300:=o11.ex.ok.a1
 have r11:z11<0∨LtOk z11 (n.fst+g11.length):=by rcases o11.res with q9|q9;exact .inr q9.2;exact .inl q9.2
 unfold LtOk at r11
 refine eC (l':=(netP b n v11 g11::l)) A ?_
 refine aU 1 A ?_
 exact aV (eG (rs:=[.tmp 6]) (vs:=[jI z11]) A ⟨A,trivial⟩ A (fun w hm=>⟨_,netP b n v11 g11,A,⟨_,_,_,A,A,.pair o3 (by omega) o7 (by omega) o11⟩,hm.sub (.refl _)⟩))
noncomputable def pB (p:Prop):Bool:=@decide p (Classical.propDecidable p)
theorem oM {p:Prop}(h:p):pB p=true:=@decide_eq_true p (Classical.propDecidable p) h
theorem gB {p:Prop}(h:¬p):pB p=false:=@decide_eq_false p (Classical.propDecidable p) h
theorem sP {p:Prop}(h:pB p=true):p:=@of_decide_eq_true p (Classical.propDecidable p) h
theorem oN {p:Prop}(h:pB p=false):¬p:=@of_decide_eq_false p (Classical.propDecidable p) h
theorem sml {w:World}{v:Value}{s n:Nat}{cs:List Value}(h:RdsW w v s n cs):n≤9223372036854775807:=by obtain⟨_,_,_,_,h,_⟩:=h;exact h.1
structure Sg where
  k:Int
  w:Int
  i:Int
abbrev sg0:Sg:=⟨0,0,0⟩
def sgC (s:Sg):List Value:=[.int .i64 s.k,.int .i64 s.w,.int .i64 s.i]
structure Oq where
  k:Int
  a:Int
  b:Int
abbrev oq0:Oq:=⟨0,0,0⟩
def oqC (o:Oq):List Value:=[.int .i64 o.k,.int .i64 o.a,.int .i64 o.b]
structure As where
  t:Int
  ov:Value
  os:List Oq
abbrev as0:As:=⟨0,.slice none 0 0,[]⟩
def asC (g:As):List Value:=[.int .i64 g.t,g.ov]
structure Ix where
  m:Int
  p:Int
  pv:Value
  ps:List Int
abbrev ix0:Ix:=⟨0,0,.slice none 0 0,[]⟩
def ixC (x:Ix):List Value:=[.int .i64 x.m,.int .i64 x.p,x.pv]
structure Mm where
  a:Int
  d:Int
  w:Int
  o:Int
abbrev mm0:Mm:=⟨0,0,0,0⟩
def mmC (x:Mm):List Value:=[.int .i64 x.a,.int .i64 x.d,.int .i64 x.w,.int .i64 x.o]
structure Md where
  sv:Value
  av:Value
  iv:Value
  mv:Value
  ss:List Sg
  gs:List As
  xs:List Ix
  ms:List Mm
abbrev md0:Md:=⟨.slice none 0 0,.slice none 0 0,.slice none 0 0,.slice none 0 0,[],[],[],[]⟩
def Md.agg (m:Md):Value:=.agg #[m.sv,m.av,m.iv,m.mv]
def mdC (m:Md):List Value:=[m.sv,m.av,m.iv,m.mv]
def OpsR (w:World) (gs:List As):Prop:=∀g∈gs,RdsW w g.ov 3 g.os.length (g.os.flatMap oqC)
def PtsR (w:World) (xs:List Ix):Prop:=∀x∈xs,RdsW w x.pv 1 x.ps.length (x.ps.map (Value.int .i64))
structure RdsMd (w:World) (m:Md):Prop where
  s:RdsW w m.sv 3 m.ss.length (m.ss.flatMap sgC)
  g:RdsW w m.av 2 m.gs.length (m.gs.flatMap asC)
  o:OpsR w m.gs
  x:RdsW w m.iv 3 m.xs.length (m.xs.flatMap ixC)
  p:PtsR w m.xs
  m:RdsW w m.mv 4 m.ms.length (m.ms.flatMap mmC)
structure RdsDs (w:World) (v:Value) (D:List Md):Prop where
  row:RdsW w v 4 D.length (D.flatMap mdC)
  md:∀m∈D,RdsMd w m
def arI (k:Int):Int:=if k<0∨12<k then -1 else if k≤3 then 0 else if k=4 then 1 else if k=12 then 3 else 2
def OqP (n:Int) (o:Oq):Prop:=(o.k=0∧(0≤o.a∧o.a≤15)∧o.b=0)∨(o.k=2∧(0≤o.a∧o.a<n)∧o.b=0)∨(o.k=3∧(0≤o.a∧o.a<n)∧0≤o.b∧o.b≤3)∨(o.k≠0∧o.k≠2∧o.k≠3∧0≤arI o.k∧o.a=0∧o.b=0)
def needK (os:List Oq):Nat→Int
  | 0=>1
  | i+1=>needK os i+(arI (os.getD i oq0).k-1)
structure OpsP (n:Int) (os:List Oq):Prop where
  len:os.length≤15
  op:∀i,i<os.length→needK os i≠0∧OqP n (os.getD i oq0)
  fin:needK os os.length=0
def isPt (s:Sg):Bool:=s.k==0||s.k==1
def ptsA (ss:List Sg):Nat→List Int
  | 0=>[]
  | i+1=>ptsA ss i++if isPt (ss.getD i sg0)=true then [(i:Int)] else []
def ptsK (m:Md):List Int:=if m.ss.length≤30 then ptsA m.ss m.ss.length else []
def knd (m:Md) (s:Int):Int:=if 0≤s∧s<m.ss.length then (m.ss.getD s.toNat sg0).k else -1
def SgP (s:Sg):Prop:=(0≤s.k∧s.k≤3)∧(0≤s.w∧s.w≤4)∧(0≤s.i∧s.i≤15)∧(s.i≠0→s.k=3)
def AsP (m:Md) (g:As):Prop:=(1≤knd m g.t∧knd m g.t≤3)∧OpsP m.ss.length g.os
def Drv (m:Md) (s:Int):Prop:=knd m s=1∨knd m s=2
def Inn (m:Md) (s:Int):Prop:=0≤s∧s<m.ss.length
def IxP (D:List Md) (m:Md) (x:Ix):Prop:=(0≤x.p∧x.p≤4)∧∀j,j<(ptsK (D.getD x.m.toNat md0)).length→Inn m (x.ps.getD j 0)∧(knd (D.getD x.m.toNat md0) ((ptsK (D.getD x.m.toNat md0)).getD j 0)=1→Drv m (x.ps.getD j 0))
def MmP (m:Md) (x:Mm):Prop:=(Inn m x.a∧Inn m x.d∧Inn m x.w)∧Drv m x.o
def LenP (m:Md):Prop:=m.ss.length≤30∧m.gs.length≤30∧m.xs.length≤3∧m.ms.length≤2
structure CntP (D:List Md):Prop where
  len:D.length≤4
  md:∀k,k<D.length→LenP (D.getD k md0)
def InsP (D:List Md) (k:Nat):Prop:=∀i,i<(D.getD k md0).xs.length→(0≤((D.getD k md0).xs.getD i ix0).m∧((D.getD k md0).xs.getD i ix0).m<k)∧((D.getD k md0).xs.getD i ix0).ps.length=(ptsK (D.getD ((D.getD k md0).xs.getD i ix0).m.toNat md0)).length
def xoA (D:List Md) (x:Ix):Nat→List Int
  | 0=>[]
  | j+1=>xoA D x j++if knd (D.getD x.m.toNat md0) ((ptsK (D.getD x.m.toNat md0)).getD j 0)=1 then [x.ps.getD j 0] else []
def xoK (D:List Md) (x:Ix):List Int:=xoA D x (ptsK (D.getD x.m.toNat md0)).length
def drvL (D:List Md) (m:Md):List Int:=m.gs.map As.t++m.ms.map Mm.o++m.xs.flatMap (xoK D)
structure ModP (D:List Md) (k:Nat):Prop where
  lt:k<D.length
  cnt:CntP D
  ins:InsP D k
  sg:∀i,i<(D.getD k md0).ss.length→SgP ((D.getD k md0).ss.getD i sg0)
  gs:∀i,i<(D.getD k md0).gs.length→AsP (D.getD k md0) ((D.getD k md0).gs.getD i as0)
  xs:∀i,i<(D.getD k md0).xs.length→IxP D (D.getD k md0) ((D.getD k md0).xs.getD i ix0)
  ms:∀i,i<(D.getD k md0).ms.length→MmP (D.getD k md0) ((D.getD k md0).ms.getD i mm0)
  dr:∀s,s<(D.getD k md0).ss.length→((D.getD k md0).ss.getD s sg0).k≠0→(drvL D (D.getD k md0)).count (s:Int)=1
def DesP (D:List Md):Prop:=(1≤D.length∧D.length≤4)∧∀k,k<D.length→ModP D k
def RdS (os:List Oq) (s:Int):Prop:=∃i,i<os.length∧((os.getD i oq0).k=2∨(os.getD i oq0).k=3)∧(os.getD i oq0).a=s
def HpP (os:List Oq):Prop:=∃i,i<os.length∧(os.getD i oq0).k=1
def FreeP (m:Md) (T:List Int) (x:Int):Prop:=∀y∈T,¬RdS (m.gs.getD x.toNat as0).os (m.gs.getD y.toNat as0).t
def Can (m:Md) (T:List Int):Prop:=∃f:Int→Nat,∀x∈T,∀y∈T,RdS (m.gs.getD x.toNat as0).os (m.gs.getD y.toNat as0).t→f y<f x
def todoA (m:Md):Nat→List Int
  | 0=>[]
  | i+1=>todoA m i++if (m.ss.getD (m.gs.getD i as0).t.toNat sg0).k≠3 then [(i:Int)] else []
def pwA (ss:List Sg) (c:Int):Nat→List Int
  | 0=>[]
  | i+1=>pwA ss c i++if (ss.getD i sg0).k=c then [(ss.getD i sg0).w] else []
def pwK (m:Md) (c:Int):List Int:=if m.ss.length≤30 then pwA m.ss c m.ss.length else []
def sumA (L:List Int):Nat→Int
  | 0=>0
  | i+1=>sumA L i+L.getD i 0
def sumZ (L:List Int):Int:=sumA L L.length
def moA (m:Md):Nat→Int
  | 0=>0
  | i+1=>moA m i+(m.ss.getD (m.ms.getD i mm0).o.toNat sg0).w
def EoP (m:Md):Prop:=m.xs.length=0∧DesP [m]∧Can m (todoA m m.gs.length)
def MwP (m:Md) (x:Mm):Prop:=(m.ss.getD x.a.toNat sg0).w=2∧(m.ss.getD x.w.toNat sg0).w=1∧(m.ss.getD x.d.toNat sg0).w=(m.ss.getD x.o.toNat sg0).w
structure FlP (m:Md):Prop where
  eo:EoP m
  wid:∀s,s<m.ss.length→(m.ss.getD s sg0).w≠0
  par:∀i,i<m.gs.length→¬HpP (m.gs.getD i as0).os
  mem:∀i,i<m.ms.length→MwP m (m.ms.getD i mm0)
  ins:sumZ (pwK m 0)≤8
  outs:sumZ (pwK m 1)≤8
  bits:sumZ (pwK m 3)+moA m m.ms.length≤12
def OpnP (m:Md) (zs:List Int) (tk:List Bl):Prop:=tk.length=m.ss.length∧∀s,s<m.ss.length→((tk.getD s bl0).b=true↔∃y∈zs,(m.gs.getD y.toNat as0).t=(s:Int))
structure AdR {α:Type}(bad bad':Prop) (o:Option α) (a:α):Prop where
  ok:¬bad'→¬bad∧o=some a
  no:bad'→bad∨o=none
def itO {σ:Type}(step:Nat→σ→Option σ) (s:σ):Nat→Option σ
  | 0=>some s
  | k+1=>(itO step s k).bind (step k)
abbrev GL:=List An×List Int
def LsOk (n:Nt) (g:List An) (ls:List Int):Prop:=∀x∈ls,LtOk x (n.fst+g.length)
structure AdP (n:Nt) (g g':List An) (bad bad':Bool) (o:Option (List An×Int)) (z:Int):Prop where
  ex:Ext n g g'
  lt:LtOk z (n.fst+g'.length)
  ad:AdR (bad=true) (bad'=true) o (g',z)
theorem tD {α β:Type}{o:Option α}{f:α→Option β}{c:β}(e:o.bind f=some c):∃a,o=some a∧f a=some c:=by
  cases o with
  | none=>cases e
  | some a=>exact⟨a,rfl,e⟩
theorem map_some {α β:Type}{o:Option α}{f:α→β}{c:β}(e:o.map f=some c):∃a,o=some a∧f a=c:=by
  cases o with
  | none=>cases e
  | some a=>cases e;exact⟨a,rfl,rfl⟩
structure SgOk (n:Nt) (g:List An) (sg:List (List Int)):Prop where
  lt:∀s∈sg,LsOk n g s∧s.length≤4
def ntL (a:Int):Int:=if a<0 then -2 else xr a
theorem pP {a:Int}(h:a<0):ntL a = -2:=if_pos h
theorem nR {a:Int}(h:0≤a):ntL a=xr a:=if_neg (by omega)
theorem kX (a:Int) (w:World) (ha:a<4294967296) :
   Calls Tryz.prog 45 #[.int .i64 a] w (Ans w (.int .i64 (ntL a))):=by
 refine bN (N:=7) (args:=[jI a]) Tryz.func45 A A (bD 1 A (aC (aC (bZ 1 A ?_))))
 refine bQ A A A A A A (fun h1=>?_) (fun h1=>?_)
 refine bR (aR A (bD 1 A ?_))
 refine aV (aL ?_)
 exact cA A A (by rw[pP (by omega)])
 refine bR (aS A (bY (aC (bZ 1 A (aP A (cP A (by decide) A A (r:=xr a) (iB (by omega) (by omega))) (aU 1 A ?_))))))
 exact aV (cA A A (by rw[nR (by omega)]))
theorem rH (x0:Int) (x1:Int) (x2:Value) (h2:x2.oneCell'=true):Tryz.prog.built 46 [(0,.int .i64 x0),(1,.int .i64 x1),(2,x2)]=some #[.int .i64 x0,.int .i64 x1,x2]:=by
  (cases x2<;>first|(exact absurd h2 Bool.false_ne_true)|kernel_rfl)
theorem zB (x0:Int) (x1:Value) (x2:Value) (x3:Value) (h1:x1.oneCell'=true) (h2:x2.oneCell'=true) (h3:x3.oneCell'=true):Tryz.prog.built 28 [(0,.int .i64 x0),(1,x1),(2,x2),(3,x3)]=some #[.int .i64 x0,x1,x2,x3]:=by
  (cases x1<;>first|(exact absurd h1 Bool.false_ne_true)|(cases x2<;>first|(exact absurd h2 Bool.false_ne_true)|(cases x3<;>first|(exact absurd h3 Bool.false_ne_true)|kernel_rfl)))
theorem kR {P:Program}{N:Nat}{w0:World}{l:List HP}{env:List (Nat×Value)}{o:Oper}{t:TypeId}{ps:Array (Nat×Operand)}{vs:List (Nat×Value)}{cs:Array Value}(ho:o.op=.build t ps)
    (hp:ps.toList.mapM (fun p=>(ev env p.2).map fun v=>(p.1,v))=some vs) (hb:∀w,Mem w0 l w→P.built t vs=some cs):RunV P N w0 l env o (.agg cs):=fun a w st=>dQ ho hp (hb w st.mem) a w st
theorem lC (ss:List Sq) (v:Value) (w:World) (hv:RdsW w v 3 ss.length (ss.flatMap sqC)) (hx:RdsSqs w ss) (hl:ss.length≤20) (h4:∀s∈ss,s.xs.length≤4) :
   Calls Tryz.prog 78 #[v] w (Ret w (fun u_ p_=>∃(ps:List HP) (zs:List Sq),p_=[rS9 46 3 u_ zs sqC,bigE ps]∧(∀w,(bigE ps).holds w→RdsSqs w zs)∧zs.map sqv=ss.map sqv)):=by
 refine bN (N:=34) (args:=[v]) Tryz.func78 A A (bD 1 A (cF ?_))
 refine dP A (dH (s:=3) A Tryz.underlying24 A) ?_
 intro g1
 refine aU 1 A (aC (bD 1 A (bE ?_)))
 refine fE _ lT ?_
 refine oP (α:=Nat) (β:=List Sq) (γ:=Value) (δ:=List HP) [0,2] A (fun i zs gu ps=>[bigE ps,rS9 46 3 gu zs sqC]) (fun i zs gu ps=>[(3,gu),(4,jI (i:Int))]) (fun i zs gu ps=>i≤ss.length∧zs.map sqv=(ss.take i).map sqv∧∀w,(bigE ps).holds w→RdsSqs w zs) (fun i zs gu ps=>ss.length-i) 0 [] _ _ ⟨by omega,by simp,fun w _=>RdsSqs.nil w⟩ (cT A) (dS A) ?_
 intro i zs gu ps hi2
 obtain⟨hi,hz,hps⟩:=hi2
 have hzl:zs.length=i:=by have h9:=tL hz;rw[List.length_take] at h9;omega
 refine aC (aC (bZ 2 A (aP A (bC A Tryz.underlying24 A (aE hv)) ?_)))
 refine bQ A A A A A A (fun h3=>?_) (fun h3=>?_)
 refine bR (aR A (bY (fM ?_)))
 have h44:=h4 _ (bS (d:=sq0) (show i<ss.length by omega))
 refine eF (l:=[bigE ps,rS9 46 3 gu zs sqC]) A 20 [0,1,2,3,4,5,6,7,8,9,10,11,12,13,14,15,16,17,18,19] (List.take 20 _) (List.drop 20 _) [[],[],[],[1,2],[3],[4],[],[],[6,7],[8],[9],[],[],[],[12,13],[14],[15],[11,16],[5,10,17],[17,18]] [some 12,some 13,some 14,some 15,some 16,some 17,some 18,some 19,some 20,some 21,some 22,some 23,some 24,some 25,some 26,some 27,some 28,some 29,some 30,some 31] (fun i_ vs_ v_ p_=>match i_ with|0=>v_=gu∧p_=[]|1=>v_=v∧p_=[]|2=>v_=jI (i:Int)∧p_=[]|3=>v_=elP v ((i:Int).toNat*3)∧p_=[]|4=>v_=elP v ((i:Int).toNat*3+0)∧p_=[]|5=>v_=jI ((ss.getD i sq0).kd)∧p_=[]|6=>v_=v∧p_=[]|7=>v_=jI (i:Int)∧p_=[]|8=>v_=elP v ((i:Int).toNat*3)∧p_=[]|9=>v_=elP v ((i:Int).toNat*3+1)∧p_=[]|10=>v_=jI ((ss.getD i sq0).it)∧p_=[]|11=>IsRow 3 1 0 ([]) v_ p_|12=>v_=v∧p_=[]|13=>v_=jI (i:Int)∧p_=[]|14=>v_=elP v ((i:Int).toNat*3)∧p_=[]|15=>v_=elP v ((i:Int).toNat*3+2)∧p_=[]|16=>v_=(ss.getD i sq0).iv∧p_=[]|17=>(∃pm_,p_=[pm_]∧(fun u_ p_=>p_=rowE 3 1 u_ (((ss.getD i sq0).xs).length) (mI ((ss.getD i sq0).xs))) v_ pm_)|18=>v_=.agg #[jI ((ss.getD i sq0).kd),jI ((ss.getD i sq0).it),(gV9 vs_ 2)]∧p_=[]|19=>IsRow 46 3 1 ([jI ((ss.getD i sq0).kd),jI ((ss.getD i sq0).it),(gV9 vs_ 0)]) v_ p_|_=>True) [[],[],[],[1,2],[3],[4],[],[],[6,7],[8],[9],[],[],[],[12,13],[14],[15],[16],[5,10,17],[17,18]] [none,none,none,none,none,none,none,none,none,none,none,none,none,none,none,none,none,some 11,none,none] [] [0,1,2,3,4,5,6,7,8,9,10,12,13,14,15,16,17,18,19] 22 (List.take_append_drop 20 _).symm (by kernel_rfl) (by kernel_rfl) (by kernel_rfl) A A ?_ ?_
 refine⟨?_,?_,?_,?_,?_,?_,?_,?_,?_,?_,?_,?_,?_,?_,?_,?_,?_,?_,?_,?_,trivial⟩
 intro vf pf hmu hR
 refine bL [] [] A (bH (aI [3] A) ?_)
 exact aT (aK A)
 intro vf pf hmu hR
 refine bL [] [] A (bH (aI [0] A) ?_)
 exact aT (aK A)
 intro vf pf hmu hR
 refine bL [] [] A (bH (aI [4] A) ?_)
 exact aT (aK A)
 intro vf pf hmu hR
 have e1:=hR 1 (by decide)
 have e2:=hR 2 (by decide)
 refine bL [1,2] [1,2] A (aW (sk 13 (congrArg some e1.1) (sk 14 (congrArg some e2.1) (aB _))) (List.sublist_append_right _ _) ?_)
 exact aT (dF 3 A A A A (aE hv))
 intro vf pf hmu hR
 have e3:=hR 3 (by decide)
 refine bL [3] [3] A (aW (sk 15 (congrArg some e3.1) (aB _)) (List.sublist_append_right _ _) ?_)
 exact aT (cC (k0:=0) A A A (aE hv) (by omega))
 intro vf pf hmu hR
 have e4:=hR 4 (by decide)
 refine bL [4] [4] A (aW (sk 16 (congrArg some e4.1) (aB _)) (List.sublist_append_right _ _) ?_)
 exact aT (bG (u:=jI ((ss.getD i sq0).kd)) A A A (aE hv) ((dE sqC 3 (fun _=>A) ss sq0 (show i<_ by omega) (by decide)).trans A))
 intro vf pf hmu hR
 refine bL [] [] A (bH (aI [0] A) ?_)
 exact aT (aK A)
 intro vf pf hmu hR
 refine bL [] [] A (bH (aI [4] A) ?_)
 exact aT (aK A)
 intro vf pf hmu hR
 have e6:=hR 6 (by decide)
 have e7:=hR 7 (by decide)
 refine bL [6,7] [6,7] A (aW (sk 18 (congrArg some e6.1) (sk 19 (congrArg some e7.1) (aB _))) (List.sublist_append_right _ _) ?_)
 exact aT (dF 3 A A A A (aE hv))
 intro vf pf hmu hR
 have e8:=hR 8 (by decide)
 refine bL [8] [8] A (aW (sk 20 (congrArg some e8.1) (aB _)) (List.sublist_append_right _ _) ?_)
 exact aT (cC (k0:=1) A A A (aE hv) (by omega))
 intro vf pf hmu hR
 have e9:=hR 9 (by decide)
 refine bL [9] [9] A (aW (sk 21 (congrArg some e9.1) (aB _)) (List.sublist_append_right _ _) ?_)
 exact aT (bG (u:=jI ((ss.getD i sq0).it)) A A A (aE hv) ((dE sqC 3 (fun _=>A) ss sq0 (show i<_ by omega) (by decide)).trans A))
 intro vf pf hmu hR
 refine bL [] [] A (aW (aB _) (List.sublist_append_right _ _) ?_)
 exact dH (s:=1) A Tryz.underlying26 A
 intro vf pf hmu hR
 refine bL [] [] A (bH (aI [0] A) ?_)
 exact aT (aK A)
 intro vf pf hmu hR
 refine bL [] [] A (bH (aI [4] A) ?_)
 exact aT (aK A)
 intro vf pf hmu hR
 have e12:=hR 12 (by decide)
 have e13:=hR 13 (by decide)
 refine bL [12,13] [12,13] A (aW (sk 24 (congrArg some e12.1) (sk 25 (congrArg some e13.1) (aB _))) (List.sublist_append_right _ _) ?_)
 exact aT (dF 3 A A A A (aE hv))
 intro vf pf hmu hR
 have e14:=hR 14 (by decide)
 refine bL [14] [14] A (aW (sk 26 (congrArg some e14.1) (aB _)) (List.sublist_append_right _ _) ?_)
 exact aT (cC (k0:=2) A A A (aE hv) (by omega))
 intro vf pf hmu hR
 have e15:=hR 15 (by decide)
 refine bL [15] [15] A (aW (sk 27 (congrArg some e15.1) (aB _)) (List.sublist_append_right _ _) ?_)
 exact aT (bG (u:=(ss.getD i sq0).iv) A A A (aE hv) ((dE sqC 3 (fun _=>A) ss sq0 (show i<_ by omega) (by decide)).trans A))
 intro vf pf hmu hR
 have e11:IsRow 3 1 0 ([]) (vf 11) (pf 11):=hR 11 (by decide)
 obtain⟨g4,vE11,pE11⟩:=e11
 have e16:=hR 16 (by decide)
 refine Or.inl ⟨A,?_⟩
 show RunM _ _ _ (pf 11) (([16]:List Nat).flatMap pf++_) (envOf3 _ vf [11,16]++_) _ _
 rw[pE11];rw[vE11]
 exact cV (sk 23 (congrArg some vE11) (sk 28 (congrArg some e16.1) (aB _))) (by simp only[e16.2,fS]<;>rfl) (gV (d:=0) (z:=jI 0) (bytes:=8) (n':=((ss.getD i sq0).xs).length) (xs':=(mI ((ss.getD i sq0).xs))) A Tryz.underlying26 A A A A (aE (hx.at (k:=i) (by omega))) (cO _) (by first|omega|(simp;done)|(simp;omega)) (Nat.zero_add _) (List.nil_append _))
 intro vf pf hmu hR
 have e5:=hR 5 (by decide)
 have e10:=hR 10 (by decide)
 have e17:(∃pm_,(pf 17)=[pm_]∧(fun u_ p_=>p_=rowE 3 1 u_ (((ss.getD i sq0).xs).length) (mI ((ss.getD i sq0).xs))) (vf 17) pm_):=hR 17 (by decide)
 obtain⟨p6,pE17,R7⟩:=e17
 obtain⟨v5,vE17⟩:∃x,vf 17=x:=⟨_,rfl⟩
 rw[vE17] at R7
 subst R7
 refine bL [5,10,17] [5,10,17] A (bU (sk 17 (congrArg some e5.1) (sk 22 (congrArg some e10.1) (sk 29 (congrArg some vE17) (aB _)))) (by simp only[pE17,vE17,e5.2,e10.2,fS]<;>rfl) ?_)
 exact cD (aT (kR (cs:=#[jI ((ss.getD i sq0).kd),jI ((ss.getD i sq0).it),v5]) A A (fun w hm=>rH ((ss.getD i sq0).kd) ((ss.getD i sq0).it) v5 ((aG 0 A w hm).one)))) (fun _ _ h=>⟨h.1.trans (by show _=(.agg #[jI ((ss.getD i sq0).kd),jI ((ss.getD i sq0).it),(vf 17)]:Value);first|(rw[vE17];done)|(rw[vE17];rfl)),h.2⟩)
 intro vf pf hmu hR
 have e17:(∃pm_,(pf 17)=[pm_]∧(fun u_ p_=>p_=rowE 3 1 u_ (((ss.getD i sq0).xs).length) (mI ((ss.getD i sq0).xs))) (vf 17) pm_):=hR 17 (by decide)
 obtain⟨p6,pE17,R7⟩:=e17
 obtain⟨v5,vE17⟩:∃x,vf 17=x:=⟨_,rfl⟩
 rw[vE17] at R7
 subst R7
 have e18:(vf 18)=.agg #[jI ((ss.getD i sq0).kd),jI ((ss.getD i sq0).it),(vf 17)]∧(pf 18)=[]:=hR 18 (by decide)
 rw[vE17] at e18
 refine bL [17,18] [17,18] A (bU (sk 30 (congrArg some e18.1) (aB _)) (by simp only[pE17,vE17,e18.2,fS]<;>rfl) ?_)
 exact cD (bB (z:=.agg #[jI 0,jI 0,.slice none 0 0]) (s:=3) (cs:=[jI ((ss.getD i sq0).kd),jI ((ss.getD i sq0).it),v5]) A Tryz.underlying24 A (by decide) A (by kernel_rfl) A) (fun v_ p_ h=>by show IsRow 46 3 1 ([jI ((ss.getD i sq0).kd),jI ((ss.getD i sq0).it),(vf 17)]) v_ p_;rw[vE17];exact h)
 intro vf pf hmu hR
 have e0:=hR 0 (by decide)
 have e11:IsRow 3 1 0 ([]) (vf 11) (pf 11):=hR 11 (by decide)
 obtain⟨g4,vE11,pE11⟩:=e11
 have e17:(∃pm_,(pf 17)=[pm_]∧(fun u_ p_=>p_=rowE 3 1 u_ (((ss.getD i sq0).xs).length) (mI ((ss.getD i sq0).xs))) (vf 17) pm_):=hR 17 (by decide)
 obtain⟨p6,pE17,R7⟩:=e17
 obtain⟨v5,vE17⟩:∃x,vf 17=x:=⟨_,rfl⟩
 rw[vE17] at R7
 subst R7
 have e19:IsRow 46 3 1 ([jI ((ss.getD i sq0).kd),jI ((ss.getD i sq0).it),(vf 17)]) (vf 19) (pf 19):=hR 19 (by decide)
 rw[vE17] at e19
 obtain⟨g8,vE19,pE19⟩:=e19
 have q0:=hR 0 (by decide)
 have q1:=hR 1 (by decide)
 have q2:=hR 2 (by decide)
 have q3:=hR 3 (by decide)
 have q4:=hR 4 (by decide)
 have q5:=hR 5 (by decide)
 have q6:=hR 6 (by decide)
 have q7:=hR 7 (by decide)
 have q8:=hR 8 (by decide)
 have q9:=hR 9 (by decide)
 have q10:=hR 10 (by decide)
 have q12:=hR 12 (by decide)
 have q13:=hR 13 (by decide)
 have q14:=hR 14 (by decide)
 have q15:=hR 15 (by decide)
 have q16:=hR 16 (by decide)
 have q18:=hR 18 (by decide)
 refine cE (bO [9,4,3,2,0] _ (sk 12 (congrArg some e0.1) (sk 31 (congrArg some vE19) (aB _))) A) (by simp only[pE17,vE17,pE19,vE19,q0.2,q1.2,q2.2,q3.2,q4.2,q5.2,q6.2,q7.2,q8.2,q9.2,q10.2,q12.2,q13.2,q14.2,q15.2,q16.2,q18.2,fS]<;>rfl) ?_
 simp only[List.drop_succ_cons,List.drop_zero]
 refine dZ (i:=0) A (fun ho9=>?_)
 refine cW (i:=3) (z:=.agg #[jI 0,jI 0,.slice none 0 0]) (bytes:=40) A A A A Tryz.underlying24 (by kernel_rfl) A A A A (aG 1 A) (aA A (aA A (aA ho9 bA))) (by first|omega|(simp only[List.length_append,List.length_cons,List.length_nil];omega)) (cH zs [(Sq.mk ((ss.getD i sq0).kd) ((ss.getD i sq0).it) v5 (ss.getD i sq0).xs)]) (dY sqC zs (Sq.mk ((ss.getD i sq0).kd) ((ss.getD i sq0).it) v5 (ss.getD i sq0).xs) _ A) (fun _=>A) ?_
 intro v10
 refine dJ 1 A (cK (bZ 1 A (aP A (dM A A A) (dJ 1 A ?_))))
 refine aZ 4 [3,0,2] A A (by decide) ?_
 refine cB 2 A ?_
 exact eD (i+1) (zs++[(Sq.mk ((ss.getD i sq0).kd) ((ss.getD i sq0).it) v5 (ss.getD i sq0).xs)]) v10 [bigE ps,rowE 3 1 v5 (((ss.getD i sq0).xs).length) (mI ((ss.getD i sq0).xs))] ⟨by omega,by rw[List.map_append,hz,eT sq0 (show i<ss.length by omega),List.map_append];rfl,fun w hw=>(hps w (aX hw cL)).app (bT (aX hw (dK cL)))⟩ (by omega) (cT rfl) (dS rfl)
 refine bR (aS A ?_)
 refine bM (dI ?_)
 refine aO (bF (bD 2 A ?_))
 refine aV (aZ 2 [0,1] A A (by decide) ?_)
 exact dX (post:=[rS9 46 3 gu zs sqC,bigE ps]) rfl rfl (.refl _) ⟨_,zs,rfl,hps,by rw[hz,List.take_of_length_le (by omega)]⟩
end Go.Proofs.YthmbefiklpoghaaGreat
