/- Texts of the law FnEqualMeans, part 6: what it uses. -/
import Derived.Test.YthmbefiklpoghaaGreatEqm5
set_option linter.unusedVariables false
set_option linter.unusedSimpArgs false
set_option maxHeartbeats 4000000
set_option maxRecDepth 100000
namespace Go.Proofs.YthmbefiklpoghaaGreat
open Go.RowKit Go.ChangeShapes
open Go.RowKit
theorem xI (n:Nt) (node:Int) (cut:List Int) (cv:Value) (w:World) (hr:RdsNt w n) (hn:NtOk n) (hcr:RdsW w cv 1 cut.length (cut.map (Value.int .i64))) (hnd:0≤node∧node<n.cnt) (hcl9:cut.length≤100000) :
   Calls Tryz.prog 77 #[.agg #[.int .i64 n.ins,n.sv,n.av,n.ov],.int .i64 node,cv] w (Ret w (fun u_ p_=>∃(ps:List HP) (m:Nt) (b:Bool),u_=.tuple #[m.agg,.bool b]∧p_=[bigE ps]∧(∀w,(bigE ps).holds w→RdsNt w m)∧(m.sv.oneCell'=true∧m.av.oneCell'=true∧m.ov.oneCell'=true)∧NtOk m)):=by
 have hi0:=hn.i0
 have hi1:=hn.i1
 have hs1:=hn.s1
 have ha1:=hn.a1
 have ho1:=hn.o1
 have hcnt:n.cnt=1+n.ins+n.ss.length+n.gs.length:=rfl
 have hfst:n.fst=1+n.ins+n.ss.length:=rfl
 have hcn:=eX hn
 refine bN (N:=160) (args:=[.agg #[jI n.ins,n.sv,n.av,n.ov],jI node,cv]) Tryz.func77 A A (cF ?_)
 refine cR A (cN A A) ?_
 intro b1
 refine cR A (bP (z:=.agg #[jI 0,.slice none 0 0,.slice none 0 0,.slice none 0 0]) A A) ?_
 intro b2
 refine aU 1 A (eP (aP A (aF (cs:=[jI n.ins,n.sv,n.av,n.ov]) A A A A A (aD 1 A 0 A)) (aM 2 A ?_)))
 refine dA A (aJ A A (fun w hm=>aY (rN n node cut cv w (hr.below hm.bel) hn (hcr.below hm.bel) hnd hcl9))) (bW (fun h3=>?_) (fun h3=>?_))
 have hcp:=of_pBe h3
 have hcl4:=hcp.len
 refine aM 3 A (aP A (aF (cs:=[jI n.ins,n.sv,n.av,n.ov]) A A A A A (aD 1 A 0 A)) ?_)
 refine dA A (aJ A A (fun w hm=>aY (dD n w (hr.below hm.bel) hn))) (bQ A A A A A A (fun h4=>?_) (fun h4=>?_))
 refine aU 6 A (aR A (cF (aP A (aF (cs:=[jI n.ins,n.sv,n.av,n.ov]) A A A A A (aD 1 A 0 A)) ?_)))
 refine eB A A A (aJ A A (fun w hm=>fA n w (hr.below hm.bel) hn)) ?_
 intro v5 p6 R7
 obtain⟨pqc,mc,rfl,rfl,hpqc,⟨o1mc,o3mc⟩,hcpmc⟩:=R7
 refine iA (fun w hm=>(aG 1 A w hm).one) (fun o2mc=>?_)
 refine bI (cs':=#[jI mc.ins,mc.sv,mc.av,mc.ov]) (i:=3) (off:=0) (us:=[jI mc.ins,mc.sv,mc.av,mc.ov]) A A A A A A A (aA A (aA o1mc (aA o2mc (aA o3mc bA)))) A A A (aU 1 A ?_)
 refine aV (aL ?_)
 refine aZ 5 [3,2,1,0] A A (by decide) ?_
 refine cB 3 A ?_
 exact bV (rs:=[.cell 6 28,.tmp 7]) (vs:=[.agg #[jI mc.ins,mc.sv,mc.av,mc.ov],.bool false]) (post:=[bigE [rS9 46 3 mc.sv mc.ss sqC,rS9 67 2 mc.av mc.gs anC,bigE pqc]]) A ⟨⟨b2,0,[jI mc.ins,mc.sv,mc.av,mc.ov],A,A,by kernel_rfl,by kernel_rfl,aD 1 A 0 A⟩,A,trivial⟩ A (eJ [0] A) ⟨_,mc,_,A,A,fun w hw=>⟨bT (aX hw cL),(hpqc w (aX hw (dK (dK cL)))).1,bT (aX hw (dK cL)),(hpqc w (aX hw (dK (dK cL)))).2⟩,⟨o1mc,o2mc,o3mc⟩,(hcpmc.grw hn).ok⟩
 refine aM 4 A (dA A (aJ A A (fun w hm=>aY (iE cut node cv w (hcr.below hm.bel) (by omega)))) ?_)
 refine bW (fun h8=>?_) (fun h8=>?_)
 refine aU 1 A (aR A (cF (aP A (aF (cs:=[jI n.ins,n.sv,n.av,n.ov]) A A A A A (aD 1 A 0 A)) ?_)))
 refine eB A A A (aJ A A (fun w hm=>fA n w (hr.below hm.bel) hn)) ?_
 intro v9 p10 R11
 obtain⟨pqc,mc,rfl,rfl,hpqc,⟨o1mc,o3mc⟩,hcpmc⟩:=R11
 refine iA (fun w hm=>(aG 1 A w hm).one) (fun o2mc=>?_)
 refine bI (cs':=#[jI mc.ins,mc.sv,mc.av,mc.ov]) (i:=3) (off:=0) (us:=[jI mc.ins,mc.sv,mc.av,mc.ov]) A A A A A A A (aA A (aA o1mc (aA o2mc (aA o3mc bA)))) A A A (aU 1 A ?_)
 refine aV (aL ?_)
 refine aZ 5 [3,2,1,0] A A (by decide) ?_
 refine cB 3 A ?_
 exact bV (rs:=[.cell 6 28,.tmp 7]) (vs:=[.agg #[jI mc.ins,mc.sv,mc.av,mc.ov],.bool false]) (post:=[bigE [rS9 46 3 mc.sv mc.ss sqC,rS9 67 2 mc.av mc.gs anC,bigE pqc]]) A ⟨⟨b2,0,[jI mc.ins,mc.sv,mc.av,mc.ov],A,A,by kernel_rfl,by kernel_rfl,aD 1 A 0 A⟩,A,trivial⟩ A (eJ [0] A) ⟨_,mc,_,A,A,fun w hw=>⟨bT (aX hw cL),(hpqc w (aX hw (dK (dK cL)))).1,bT (aX hw (dK cL)),(hpqc w (aX hw (dK (dK cL)))).2⟩,⟨o1mc,o2mc,o3mc⟩,(hcpmc.grw hn).ok⟩
 have hbn:=h8
 refine aU 1 A (aS A (bY (cF (aP A (aF (cs:=[jI n.ins,n.sv,n.av,n.ov]) A A A A A (aD 1 A 0 A)) (aM 2 A ?_)))))
 refine eB A A A (aJ A A (fun w hm=>rX n node cut cv w (hr.below hm.bel) hn (hcr.below hm.bel) hnd hcp)) ?_
 intro v12 p13 R14
 obtain⟨tb,rfl,rfl,htb⟩:=R14
 obtain⟨htn,htb0,htb1⟩:=id htb
 refine cR A (bP (z:=.agg #[jI 0,jI 0]) A A) ?_
 intro b15
 refine bI (cs':=#[jI (cut.length:Int),jI tb]) (i:=0) (off:=0) (us:=[jI (cut.length:Int),jI tb]) A A A A A A A (aA A (aA A bA)) A A A (dB (bF (aC (bJ (aP A (aF (cs:=[jI (cut.length:Int),jI tb]) A A A A A (aD 0 A 0 A)) ?_)))))
 refine eB A A A (aJ A A (fun w hm=>pG (Tab.mk (cut.length:Int) tb) w htb)) ?_
 intro v16 p17 R18
 obtain⟨cs1,rfl,hcb1⟩:=R18
 refine aM 1 A (dB (bF (aC (bJ (aP A (aF (cs:=[jI (cut.length:Int),jI tb]) A A A A A (aD 1 A 0 A)) ?_)))))
 refine eB A A A (aJ A A (fun w hm=>vA (cut.length:Int) tb w htn ⟨htb0,htb1⟩)) ?_
 intro v19 p20 R21
 obtain⟨rfl,t2,ht2,ht2n,rfl⟩:=R21
 refine eB A A A (aJ A A (fun w hm=>pG t2 w ht2)) ?_
 intro v22 p23 R24
 obtain⟨cs2,rfl,hcb2⟩:=R24
 refine aU 1 A (aC ?_)
 refine eV A 9 [0,1,2,3,4,5,6,7,8] (List.take 9 _) (List.drop 9 _) [[],[0],[],[1,2],[],[4],[],[5,6],[3,7]] [46,47,48,49,50,51,52,53,54] (fun i_ vs_ v_ p_=>match i_ with|0=>v_=.pointer (some ⟨b15,0+0,none⟩)∧p_=[]|1=>v_=jI (cut.length:Int)∧p_=[]|2=>v_=v22∧p_=[]|3=>(fun u_ p_=>∃b_:Int,u_=jI b_∧p_=[]) v_ p_|4=>v_=.pointer (some ⟨b15,0+0,none⟩)∧p_=[]|5=>v_=jI (cut.length:Int)∧p_=[]|6=>v_=v16∧p_=[]|7=>(fun u_ p_=>∃b_:Int,u_=jI b_∧p_=[]) v_ p_|8=>v_=.bool (decide ((intOf_o (gV9 vs_ 0))<(intOf_o (gV9 vs_ 1))))∧p_=[]|_=>True) (List.take_append_drop 9 _).symm (by kernel_rfl) (by kernel_rfl) A A ?_ ?_
 refine⟨?_,?_,?_,?_,?_,?_,?_,?_,?_,trivial⟩
 intro vf pf hR
 exact fX A (aI [8] A) (aT (cQ 0 A A A))
 intro vf pf hR
 have e0:=hR 0 (by decide)
 exact eZ A (sk 46 (congrArg some e0.1) (aB _)) (aT (aN A A A (aH 2 A A)))
 intro vf pf hR
 exact fX A (aI [10] A) (aT (aK A))
 intro vf pf hR
 have e1:=hR 1 (by decide)
 have e2:=hR 2 (by decide)
 exact eZ A (sk 47 (congrArg some e1.1) (sk 48 (congrArg some e2.1) (aB _))) (aJ A A (fun w hm=>pH (cut.length:Int) cs2 _ w htn ((aG 0 A) w hm) hcb2))
 intro vf pf hR
 exact fX A (aI [8] A) (aT (cQ 0 A A A))
 intro vf pf hR
 have e4:=hR 4 (by decide)
 exact eZ A (sk 50 (congrArg some e4.1) (aB _)) (aT (aN A A A (aH 2 A A)))
 intro vf pf hR
 exact fX A (aI [9] A) (aT (aK A))
 intro vf pf hR
 have e5:=hR 5 (by decide)
 have e6:=hR 6 (by decide)
 exact eZ A (sk 51 (congrArg some e5.1) (sk 52 (congrArg some e6.1) (aB _))) (aJ A A (fun w hm=>pH (cut.length:Int) cs1 _ w htn ((aG 1 A) w hm) hcb1))
 intro vf pf hR
 have e3:(fun u_ p_=>∃b_:Int,u_=jI b_∧p_=[]) (vf 3) (pf 3):=hR 3 (by decide)
 obtain⟨v25,vE3⟩:∃x,vf 3=x:=⟨_,rfl⟩
 obtain⟨p26,pE3⟩:∃x,pf 3=x:=⟨_,rfl⟩
 have R27:=e3
 rw[vE3,pE3] at R27
 obtain⟨x27,rfl,rfl⟩:=R27
 have e7:(fun u_ p_=>∃b_:Int,u_=jI b_∧p_=[]) (vf 7) (pf 7):=hR 7 (by decide)
 obtain⟨v28,vE7⟩:∃x,vf 7=x:=⟨_,rfl⟩
 obtain⟨p29,pE7⟩:∃x,pf 7=x:=⟨_,rfl⟩
 have R30:=e7
 rw[vE7,pE7] at R30
 obtain⟨x30,rfl,rfl⟩:=R30
 exact fX A (sk 49 (congrArg some vE3) (sk 53 (congrArg some vE7) (aB _))) (cD (aT (dC A A A A)) (fun _ _ h=>⟨h.1.trans (by show _=(.bool (decide ((intOf_o (vf 3))<(intOf_o (vf 7)))):Value);first|(rw[vE3,vE7];done)|(rw[vE3,vE7];rfl)),h.2⟩))
 intro vf pf hR
 have e3:(fun u_ p_=>∃b_:Int,u_=jI b_∧p_=[]) (vf 3) (pf 3):=hR 3 (by decide)
 obtain⟨v25,vE3⟩:∃x,vf 3=x:=⟨_,rfl⟩
 obtain⟨p26,pE3⟩:∃x,pf 3=x:=⟨_,rfl⟩
 have R27:=e3
 rw[vE3,pE3] at R27
 obtain⟨x27,rfl,rfl⟩:=R27
 have e7:(fun u_ p_=>∃b_:Int,u_=jI b_∧p_=[]) (vf 7) (pf 7):=hR 7 (by decide)
 obtain⟨v28,vE7⟩:∃x,vf 7=x:=⟨_,rfl⟩
 obtain⟨p29,pE7⟩:∃x,pf 7=x:=⟨_,rfl⟩
 have R30:=e7
 rw[vE7,pE7] at R30
 obtain⟨x30,rfl,rfl⟩:=R30
 have e8:(vf 8)=.bool (decide ((intOf_o (vf 3))<(intOf_o (vf 7))))∧(pf 8)=[]:=hR 8 (by decide)
 rw[vE3,vE7] at e8
 refine nZ (bO [34,10,9,8,7,6,3,2,1,0] _ (sk 54 (congrArg some e8.1) (aB _)) A) (List.sublist_append_right _ _) ?_
 simp only[List.drop_succ_cons,List.drop_zero]
 refine aM 1 A (bW (fun h31=>?_) (fun h31=>?_))
 refine bR ?_
 refine lP (α:=List An) (β:=Value) (γ:=Bool) (fun cx cvv fl=>[rS9 127 2 cvv cx anC,boxE b15 #[jI (cut.length:Int),jI tb] 111,eB9 b2,nB9 b1 n]) (fun cx cvv fl=>[(0,.agg #[jI n.ins,n.sv,n.av,n.ov]),(1,jI node),(2,cv),(3,pI b1),(6,pI b2),(7,.bool false),(8,pI b15),(9,cvv),(10,v22),(11,.bool fl),(34,.bool false)]) (fun cx cvv fl=>CbR cx) ?_ ?_
 refine bD 1 A (aR A (bJ (dJ 2 A ?_)))
 exact gC cs2 v22 true hcb2 (cT A) (eJ [0,1,0,0] A)
 intro cx cvv fl hm32
 have hcx:=hm32
 refine cF (aP A (aF (cs:=[jI n.ins,n.sv,n.av,n.ov]) A A A A A (aD 3 A 0 A)) ?_)
 refine eB A A A (aJ A A (fun w hm=>iI n w (hr.below hm.bel) hn)) ?_
 intro v33 p34 R35
 obtain⟨pe,e0,tv,rfl,rfl,hpe,o1e,⟨hav,hov,hgs0,hos0⟩,hsk0,hok0⟩:=R35
 simp only[Nt.agg,hav,hov]
 have hme:NtOk (Nt.mk e0.ins e0.sv (.slice none 0 0) (.slice none 0 0) e0.ss [] []):=by have h9:=hok0;cases e0;simp only at hav hov hgs0 hos0;subst hav hov hgs0 hos0;exact h9
 have hse:Skel n (Nt.mk e0.ins e0.sv (.slice none 0 0) (.slice none 0 0) e0.ss [] []):=⟨hsk0.ins,hsk0.ss⟩
 have hce:(Nt.mk e0.ins e0.sv (.slice none 0 0) (.slice none 0 0) e0.ss [] []).cnt=n.fst:=by rw[←hse.fst];exact Int.add_zero _
 refine aM 3 A (cR A (bP (z:=.agg #[jI 0,.slice none 0 0,.slice none 0 0,.slice none 0 0]) A A) ?_)
 intro b36
 refine bI (cs':=#[jI e0.ins,e0.sv,.slice none 0 0,.slice none 0 0]) (i:=0) (off:=0) (us:=[jI e0.ins,e0.sv,.slice none 0 0,.slice none 0 0]) A A A A A A A (aA A (aA o1e (aA A (aA A bA)))) A A A (aU 1 A (aC (bD 1 A (bE ?_))))
 refine gT (α:=Nat) (β:=BSt) [0,1,2,3,6,7,8,9,10,11,12,34] rfl (fun i q=>[nB9 b36 q.o,rS9 46 3 q.o.sv q.o.ss sqC,rI9 3 q.tr.v q.tr.xs,bigE q.ps,rS9 127 2 cvv cx anC,boxE b15 #[jI (cut.length:Int),jI tb] 111,eB9 b2,nB9 b1 n]) (fun i q=>[(13,q.tr.v),(14,jI (i:Int))]) (fun i q=>i≤n.gs.length∧NtOk q.o∧Skel n q.o∧MapOk q.tr.xs (n.fst+(i:Int)) q.o.cnt∧(∀w,(bigE q.ps).holds w→NtRest w q.o)∧(q.o.sv.oneCell'=true∧q.o.av.oneCell'=true∧q.o.ov.oneCell'=true)) (fun i q=>n.gs.length-i) 0 ⟨Nt.mk e0.ins e0.sv (.slice none 0 0) (.slice none 0 0) e0.ss [] [],CRow.mk _ (evs2 n.fst.toNat),_⟩ ⟨Nat.zero_le _,hme,hse,by rw[hce];have h9:=mE (k:=n.fst.toNat) (m:=n.fst) (by omega);rw[Int.toNat_of_nonneg (by omega)] at h9;simpa using h9,fun w hw=>⟨hpe w hw,dN (w0:=w) (l:=[]) w (Mem.refl w),dN (w0:=w) (l:=[]) w (Mem.refl w)⟩,⟨o1e,rfl,rfl⟩⟩ (cT rfl) (dS rfl) ?_
 intro i q hi37
 obtain⟨hi,ho,hsk,hmk,hps,⟨o1o,o2o,o3o⟩⟩:=hi37
 have hmk1:=hmk.1
 have hco:=eX ho
 refine aC (aC (bZ 1 A (aP A (cQ 2 A A A) (aP A (aN A A A (aH 7 A A)) (aP A (bC A Tryz.underlying25 A (aE hr.an)) ?_)))))
 refine bQ A A A A A A (fun h38=>?_) (fun h38=>?_)
 refine bR (aR A (bY (fM (cF (aP A (aF (cs:=[jI q.o.ins,q.o.sv,q.o.av,q.o.ov]) A A A A A (aD 0 A 0 A)) ?_)))))
 refine cR A (bP (z:=.agg #[jI 0,.slice none 0 0,.slice none 0 0,.slice none 0 0]) A A) ?_
 intro b39
 refine bI (cs':=#[jI q.o.ins,q.o.sv,q.o.av,q.o.ov]) (i:=0) (off:=0) (us:=[jI q.o.ins,q.o.sv,q.o.av,q.o.ov]) A A A A A A A (aA A (aA o1o (aA o2o (aA o3o bA)))) A A A (bR (bD 1 A ?_))
 refine lP (α:=Nt) (β:=List HP) (γ:=Int) (fun m9 ps9 x9=>[nB9 b39 m9,nB9 b36 q.o,rS9 46 3 m9.sv m9.ss sqC,rI9 3 q.tr.v q.tr.xs,bigE ps9,rS9 127 2 cvv cx anC,boxE b15 #[jI (cut.length:Int),jI tb] 111,eB9 b2,nB9 b1 n]) (fun m9 ps9 x9=>[(0,.agg #[jI n.ins,n.sv,n.av,n.ov]),(1,jI node),(2,cv),(3,pI b1),(6,pI b2),(7,.bool false),(8,pI b15),(9,cvv),(10,v22),(11,.bool fl),(12,pI b36),(13,q.tr.v),(14,jI (i:Int)),(15,pI b39),(16,jI x9),(34,.bool false),(66,.bool true)]) (fun m9 ps9 x9=>NtOk m9∧Skel n m9∧q.o.cnt≤m9.cnt∧x9<2*m9.cnt∧(∀w,(bigE ps9).holds w→NtRest w m9)∧(m9.sv.oneCell'=true∧m9.av.oneCell'=true∧m9.ov.oneCell'=true)) ?_ ?_
 refine cF (aP A (aF (cs:=[jI n.ins,n.sv,n.av,n.ov]) A A A A A (aD 8 A 0 A)) ?_)
 refine dA A (aJ A A (fun w hm=>aY (dD n w (hr.below hm.bel) hn))) (aM 1 A (aP A (dM A A A) (aM 1 A ?_)))
 refine cM A A A A A A (fun h40=>?_) (fun h40=>?_)
 refine bR (aR A (cF ?_))
 refine dP A (dH (s:=1) A Tryz.underlying26 A) ?_
 intro g41
 refine aU 1 A (aC (bD 1 A (bE ?_)))
 refine fE [rowE 3 1 (.slice (some ⟨g41,0,none⟩) 0 0) (([]:List Int).length) (mI ([]:List Int)),nB9 b39 q.o,nB9 b36 q.o,rS9 46 3 q.o.sv q.o.ss sqC,rI9 3 q.tr.v q.tr.xs,bigE q.ps,rS9 127 2 cvv cx anC,boxE b15 #[jI (cut.length:Int),jI tb] 111,eB9 b2,nB9 b1 n] (fun w hm=>hm) ?_
 refine iC (α:=Nat) (β:=List Int) (γ:=Value) [0,1,2,3,6,7,8,9,10,11,12,13,14,15,16,34,66,75] A (fun k ls lv=>[rI9 3 lv ls,nB9 b39 q.o,nB9 b36 q.o,rS9 46 3 q.o.sv q.o.ss sqC,rI9 3 q.tr.v q.tr.xs,bigE q.ps,rS9 127 2 cvv cx anC,boxE b15 #[jI (cut.length:Int),jI tb] 111,eB9 b2,nB9 b1 n]) (fun k ls lv=>[(17,lv),(18,jI (k:Int))]) (fun k ls lv=>k≤cut.length∧ls.length=k∧∀x∈ls,LtOk x q.o.cnt) (fun k ls lv=>cut.length-k) 0 [] _ ⟨Nat.zero_le _,A,fun x hx=>by cases hx⟩ (cT A) (dS A) ?_
 intro k ls lv hi42
 obtain⟨hk,hlsl,hlsr⟩:=hi42
 refine aC (aC (bZ 2 A (aP A (bC A Tryz.underlying26 A (aE hcr)) ?_)))
 refine bQ A A A A A A (fun h43=>?_) (fun h43=>?_)
 refine bR (aR A (bY (fM (bJ ?_))))
 have hcb9:=tB hn hnd.1 hcp hbn (k:=k) (by omega)
 refine aM 4 A (aP A (dF 1 A A A A (aE hcr)) (aP A (hC A A A (aE hcr)) (aP A (dF 1 A A A A (aG 4 A)) (aP A (rR A A A (aG 4 A)) ?_))))
 refine dP A (bB (z:=jI 0) (s:=1) (cs:=(mI [q.tr.xs.getD ((cut.getD k 0).toNat) 0])) A Tryz.underlying26 A (by decide) A (by kernel_rfl) A) ?_
 intro g44
 refine cW (i:=1) (z:=jI 0) (bytes:=8) A A A A Tryz.underlying26 (by kernel_rfl) A A A A (aG 0 A) (cO _) (by first|omega|(simp;done)|(simp;omega)) (cH ls ([q.tr.xs.getD ((cut.getD k 0).toNat) 0])) (dL ls ([q.tr.xs.getD ((cut.getD k 0).toNat) 0])) (fun _=>A) ?_
 intro v45
 refine dJ 1 A (cK (bZ 1 A (aP A (dM A A A) (dJ 1 A ?_))))
 exact cI (k+1) (ls++([q.tr.xs.getD ((cut.getD k 0).toNat) 0])) v45 ⟨by omega,by rw[List.length_append,List.length_singleton,hlsl],fun x hx=>by rcases List.mem_append.1 hx with hx|hx;exact hlsr x hx;rw[List.mem_singleton] at hx;subst hx;exact hmk.2 _ (by omega)⟩ (by omega) (cT rfl) (eJ [1,0,0,0,0,0,0,0,0,0] rfl)
 refine bR (aS A ?_)
 refine bM (dI ?_)
 refine aO (bF (cF (aP A (aF (cs:=[jI q.o.ins,q.o.sv,q.o.av,q.o.ov]) A A A A A (aD 2 A 0 A)) (aM 2 A ?_))))
 refine eB A A A (aJ A A (fun w hm=>pJ q.o ls cx _ _ w ((hps w (hm.holds _ (bX (i:=5) A))).rds (aG 3 A w hm)) ho ((aG 0 A) w hm) ((aG 6 A) w hm) hcx (by omega) hlsr)) ?_
 intro v46 p47 R48
 obtain⟨ps48,m48,z48,rfl,rfl,hpm48,⟨o1mhR48,o2mhR48,o3mhR48⟩,gm48,lm48⟩:=R48
 have rm48:=eX gm48.ok
 refine aM 3 A (bI (cs':=#[jI m48.ins,m48.sv,m48.av,m48.ov]) (i:=3) (off:=0) (us:=[jI m48.ins,m48.sv,m48.av,m48.ov]) A A A A A A A (aA A (aA o1mhR48 (aA o2mhR48 (aA o3mhR48 bA)))) A A A ?_)
 refine aU 1 A (aC (bZ 1 A ?_))
 refine gO A A A A A A (fun h49=>?_) (fun h49=>?_)
 refine bR (aR A (bZ 2 A ?_))
 refine bW (fun h50=>?_) (fun h50=>?_)
 refine dA A (aJ A A (fun w hm=>aY (jX true w))) (aP A (cP A (by decide) A A (r:=flX z48 true) (oC (by omega) (by omega))) (dJ 1 A ?_))
 refine aZ 12 [11,10,9,8,1,6,0,4,3] A A (by decide) ?_
 exact gC m48 ps48 (flX z48 true) ⟨gm48.ok,hsk.trans gm48.cp.skel,gm48.cnt,(uN ⟨by omega,lm48⟩).2,hpm48,⟨o1mhR48,o2mhR48,o3mhR48⟩⟩ (cT A) (dS A)
 refine dA A (aJ A A (fun w hm=>aY (jX false w))) (aP A (cP A (by decide) A A (r:=flX z48 false) (oC (by omega) (by omega))) (dJ 1 A ?_))
 refine aZ 12 [11,10,9,8,1,6,0,4,3] A A (by decide) ?_
 exact gC m48 ps48 (flX z48 false) ⟨gm48.ok,hsk.trans gm48.cp.skel,gm48.cnt,(uN ⟨by omega,lm48⟩).2,hpm48,⟨o1mhR48,o2mhR48,o3mhR48⟩⟩ (cT A) (dS A)
 refine bR (hH A ?_)
 refine aZ 12 [11,10,9,8,1,6,0,4,3] A A (by decide) ?_
 exact gC m48 ps48 z48 ⟨gm48.ok,hsk.trans gm48.cp.skel,gm48.cnt,lm48,hpm48,⟨o1mhR48,o2mhR48,o3mhR48⟩⟩ (cT A) (dS A)
 refine bR (aS A ?_)
 have hani:=hn.an i (by omega)
 have hia:LtOk (n.gs.getD i an0).a (n.fst+(i:Int)):=hani.1
 have hib:LtOk (n.gs.getD i an0).b (n.fst+(i:Int)):=hani.2
 obtain⟨hta,hta2⟩:=hmk.lit hia
 obtain⟨htb2,htb3⟩:=hmk.lit hib
 have hia2:=hia
 have hib2:=hib
 unfold LtOk at hta hta2 htb2 htb3 hia2 hib2
 refine eF (l:=[nB9 b36 q.o,rS9 46 3 q.o.sv q.o.ss sqC,rI9 3 q.tr.v q.tr.xs,bigE q.ps,rS9 127 2 cvv cx anC,boxE b15 #[jI (cut.length:Int),jI tb] 111,eB9 b2,nB9 b1 n]) A 42 [0,1,2,3,4,5,6,7,8,9,10,11,12,13,14,15,16,17,18,19,20,21,22,23,24,25,26,27,28,29,30,31,32,33,34,35,36,37,38,39,40,41] (List.take 42 _) (List.drop 42 _) [[],[],[],[2],[],[3,4],[5],[6],[7],[1,8],[9],[],[11],[],[12,13],[14],[15],[16],[10,17],[],[],[20],[],[21,22],[23],[24],[25],[19,26],[27],[],[29],[],[30,31],[32],[33],[34],[28,35],[0,18,36],[37],[37,38],[37,38],[37,39]] [some 107,some 108,some 109,some 110,some 111,some 112,some 113,some 114,some 115,some 116,some 117,some 118,some 119,some 120,some 121,some 122,some 123,some 124,some 125,some 126,some 127,some 128,some 129,some 130,some 131,some 132,some 133,some 134,some 135,some 136,some 137,some 138,some 139,some 140,some 141,some 142,some 143,some 144,some 106,some 145,some 146,none] (fun i_ vs_ v_ p_=>match i_ with|0=>v_=.agg #[jI q.o.ins,q.o.sv,q.o.av,q.o.ov]∧p_=[]|1=>v_=q.tr.v∧p_=[]|2=>v_=.pointer (some ⟨b1,0+2,none⟩)∧p_=[]|3=>v_=n.av∧p_=[]|4=>v_=jI (i:Int)∧p_=[]|5=>v_=elP n.av ((i:Int).toNat*2)∧p_=[]|6=>v_=elP n.av ((i:Int).toNat*2+0)∧p_=[]|7=>v_=jI ((n.gs.getD i an0).a)∧p_=[]|8=>v_=jI (((n.gs.getD i an0).a) / 2)∧p_=[]|9=>v_=elP q.tr.v ((((n.gs.getD i an0).a) / 2).toNat*1)∧p_=[]|10=>v_=jI (q.tr.xs.getD ((((n.gs.getD i an0).a) / 2).toNat) 0)∧p_=[]|11=>v_=.pointer (some ⟨b1,0+2,none⟩)∧p_=[]|12=>v_=n.av∧p_=[]|13=>v_=jI (i:Int)∧p_=[]|14=>v_=elP n.av ((i:Int).toNat*2)∧p_=[]|15=>v_=elP n.av ((i:Int).toNat*2+0)∧p_=[]|16=>v_=jI ((n.gs.getD i an0).a)∧p_=[]|17=>v_=jI (((n.gs.getD i an0).a) % 2)∧p_=[]|18=>v_=jI (mpL q.tr.xs ((n.gs.getD i an0).a))∧p_=[]|19=>v_=q.tr.v∧p_=[]|20=>v_=.pointer (some ⟨b1,0+2,none⟩)∧p_=[]|21=>v_=n.av∧p_=[]|22=>v_=jI (i:Int)∧p_=[]|23=>v_=elP n.av ((i:Int).toNat*2)∧p_=[]|24=>v_=elP n.av ((i:Int).toNat*2+1)∧p_=[]|25=>v_=jI ((n.gs.getD i an0).b)∧p_=[]|26=>v_=jI (((n.gs.getD i an0).b) / 2)∧p_=[]|27=>v_=elP q.tr.v ((((n.gs.getD i an0).b) / 2).toNat*1)∧p_=[]|28=>v_=jI (q.tr.xs.getD ((((n.gs.getD i an0).b) / 2).toNat) 0)∧p_=[]|29=>v_=.pointer (some ⟨b1,0+2,none⟩)∧p_=[]|30=>v_=n.av∧p_=[]|31=>v_=jI (i:Int)∧p_=[]|32=>v_=elP n.av ((i:Int).toNat*2)∧p_=[]|33=>v_=elP n.av ((i:Int).toNat*2+1)∧p_=[]|34=>v_=jI ((n.gs.getD i an0).b)∧p_=[]|35=>v_=jI (((n.gs.getD i an0).b) % 2)∧p_=[]|36=>v_=jI (mpL q.tr.xs ((n.gs.getD i an0).b))∧p_=[]|37=>(fun u_ p_=>∃(ps:List HP) (m:Nt) (z:Int),u_=.tuple #[m.agg,jI z]∧p_=[rS9 46 3 m.sv m.ss sqC,bigE ps]∧(∀w,(bigE ps).holds w→NtRest w m)∧(m.sv.oneCell'=true∧m.av.oneCell'=true∧m.ov.oneCell'=true)∧CpS q.o m∧OpS q.o m (andO q.o.fst q.o.gs (mpL q.tr.xs ((n.gs.getD i an0).a)) (mpL q.tr.xs ((n.gs.getD i an0).b))) z) v_ p_|38=>v_=.tuple #[.agg #[jI (intOf_o (ag9 0 (tp9 0 (gV9 vs_ 0)))),(ag9 1 (tp9 0 (gV9 vs_ 0))),(ag9 2 (tp9 0 (gV9 vs_ 0))),(ag9 3 (tp9 0 (gV9 vs_ 0)))],jI (intOf_o (tp9 1 (gV9 vs_ 0)))]∧p_=[]|39=>v_=.agg #[jI (intOf_o (ag9 0 (tp9 0 (gV9 vs_ 0)))),(ag9 1 (tp9 0 (gV9 vs_ 0))),(ag9 2 (tp9 0 (gV9 vs_ 0))),(ag9 3 (tp9 0 (gV9 vs_ 0)))]∧p_=[]|40=>v_=jI (intOf_o (tp9 1 (gV9 vs_ 0)))∧p_=[]|41=>p_=[boxE b39 #[jI (intOf_o (ag9 0 (tp9 0 (gV9 vs_ 0)))),(ag9 1 (tp9 0 (gV9 vs_ 0))),(ag9 2 (tp9 0 (gV9 vs_ 0))),(ag9 3 (tp9 0 (gV9 vs_ 0)))] 28]|_=>True) [[],[],[],[2],[],[3,4],[5],[6],[7],[1,8],[9],[],[11],[],[12,13],[14],[15],[16],[10,17],[],[],[20],[],[21,22],[23],[24],[25],[19,26],[27],[],[29],[],[30,31],[32],[33],[34],[28,35],[0,18,36],[37],[37,38],[37,38],[37,39]] [none,none,none,none,none,none,none,none,none,none,none,none,none,none,none,none,none,none,none,none,none,none,none,none,none,none,none,none,none,none,none,none,none,none,none,none,none,none,none,none,none,some 43] [[nB9 b39 q.o]] [0,1,2,3,4,5,6,7,8,9,10,11,12,13,14,15,16,17,18,19,20,21,22,23,24,25,26,27,28,29,30,31,32,33,34,35,36,37,38,39,40,41] 43 (List.take_append_drop 42 _).symm (by kernel_rfl) (by kernel_rfl) (by kernel_rfl) A A ?_ ?_
 refine⟨?_,?_,?_,?_,?_,?_,?_,?_,?_,?_,?_,?_,?_,?_,?_,?_,?_,?_,?_,?_,?_,?_,?_,?_,?_,?_,?_,?_,?_,?_,?_,?_,?_,?_,?_,?_,?_,?_,?_,?_,?_,?_,trivial⟩
 intro vf pf hmu hR
 refine bL [] [] A (aW (aI [12] A) (List.sublist_append_right _ _) ?_)
 exact aT (aF (cs:=[jI q.o.ins,q.o.sv,q.o.av,q.o.ov]) A A A A A (aD 0 A 0 A))
 intro vf pf hmu hR
 refine bL [] [] A (bH (aI [13] A) ?_)
 exact aT (aK A)
 intro vf pf hmu hR
 refine bL [] [] A (bH (aI [3] A) ?_)
 exact aT (cQ 2 A A A)
 intro vf pf hmu hR
 have e2:=hR 2 (by decide)
 refine bL [2] [2] A (aW (sk 109 (congrArg some e2.1) (aB _)) (List.sublist_append_right _ _) ?_)
 exact aT (aN A A A (aH 7 A A))
 intro vf pf hmu hR
 refine bL [] [] A (bH (aI [14] A) ?_)
 exact aT (aK A)
 intro vf pf hmu hR
 have e3:=hR 3 (by decide)
 have e4:=hR 4 (by decide)
 refine bL [3,4] [3,4] A (aW (sk 110 (congrArg some e3.1) (sk 111 (congrArg some e4.1) (aB _))) (List.sublist_append_right _ _) ?_)
 exact aT (dF 2 A A A A (aE hr.an))
 intro vf pf hmu hR
 have e5:=hR 5 (by decide)
 refine bL [5] [5] A (aW (sk 112 (congrArg some e5.1) (aB _)) (List.sublist_append_right _ _) ?_)
 exact aT (cC (k0:=0) A A A (aE hr.an) (by omega))
 intro vf pf hmu hR
 have e6:=hR 6 (by decide)
 refine bL [6] [6] A (aW (sk 113 (congrArg some e6.1) (aB _)) (List.sublist_append_right _ _) ?_)
 exact aT (bG (u:=jI ((n.gs.getD i an0).a)) A A A (aE hr.an) ((dE anC 2 (fun _=>A) n.gs an0 (show i<_ by omega) (by decide)).trans A))
 intro vf pf hmu hR
 have e7:=hR 7 (by decide)
 refine bL [7] [7] A (bH (sk 114 (congrArg some e7.1) (aB _)) ?_)
 exact aT (fF A A A (by refine⟨?_,?_,?_⟩<;>omega))
 intro vf pf hmu hR
 have e1:=hR 1 (by decide)
 have e8:=hR 8 (by decide)
 refine bL [1,8] [1,8] A (aW (sk 108 (congrArg some e1.1) (sk 115 (congrArg some e8.1) (aB _))) (List.sublist_append_right _ _) ?_)
 exact aT (dF 1 A A A A (aG 2 A))
 intro vf pf hmu hR
 have e9:=hR 9 (by decide)
 refine bL [9] [9] A (aW (sk 116 (congrArg some e9.1) (aB _)) (List.sublist_append_right _ _) ?_)
 exact aT (rR A A A (aG 2 A))
 intro vf pf hmu hR
 refine bL [] [] A (bH (aI [3] A) ?_)
 exact aT (cQ 2 A A A)
 intro vf pf hmu hR
 have e11:=hR 11 (by decide)
 refine bL [11] [11] A (aW (sk 118 (congrArg some e11.1) (aB _)) (List.sublist_append_right _ _) ?_)
 exact aT (aN A A A (aH 7 A A))
 intro vf pf hmu hR
 refine bL [] [] A (bH (aI [14] A) ?_)
 exact aT (aK A)
 intro vf pf hmu hR
 have e12:=hR 12 (by decide)
 have e13:=hR 13 (by decide)
 refine bL [12,13] [12,13] A (aW (sk 119 (congrArg some e12.1) (sk 120 (congrArg some e13.1) (aB _))) (List.sublist_append_right _ _) ?_)
 exact aT (dF 2 A A A A (aE hr.an))
 intro vf pf hmu hR
 have e14:=hR 14 (by decide)
 refine bL [14] [14] A (aW (sk 121 (congrArg some e14.1) (aB _)) (List.sublist_append_right _ _) ?_)
 exact aT (cC (k0:=0) A A A (aE hr.an) (by omega))
 intro vf pf hmu hR
 have e15:=hR 15 (by decide)
 refine bL [15] [15] A (aW (sk 122 (congrArg some e15.1) (aB _)) (List.sublist_append_right _ _) ?_)
 exact aT (bG (u:=jI ((n.gs.getD i an0).a)) A A A (aE hr.an) ((dE anC 2 (fun _=>A) n.gs an0 (show i<_ by omega) (by decide)).trans A))
 intro vf pf hmu hR
 have e16:=hR 16 (by decide)
 refine bL [16] [16] A (bH (sk 123 (congrArg some e16.1) (aB _)) ?_)
 exact aT (cP A (by decide) A A (r:=((n.gs.getD i an0).a) % 2) (Bit.and_one _ (by omega) (by omega)))
 intro vf pf hmu hR
 have e10:=hR 10 (by decide)
 have e17:=hR 17 (by decide)
 refine bL [10,17] [10,17] A (bH (sk 117 (congrArg some e10.1) (sk 124 (congrArg some e17.1) (aB _))) ?_)
 exact aT (cP A (by decide) A A (r:=mpL q.tr.xs ((n.gs.getD i an0).a)) (lD (by omega) (by omega)))
 intro vf pf hmu hR
 refine bL [] [] A (bH (aI [13] A) ?_)
 exact aT (aK A)
 intro vf pf hmu hR
 refine bL [] [] A (bH (aI [3] A) ?_)
 exact aT (cQ 2 A A A)
 intro vf pf hmu hR
 have e20:=hR 20 (by decide)
 refine bL [20] [20] A (aW (sk 127 (congrArg some e20.1) (aB _)) (List.sublist_append_right _ _) ?_)
 exact aT (aN A A A (aH 7 A A))
 intro vf pf hmu hR
 refine bL [] [] A (bH (aI [14] A) ?_)
 exact aT (aK A)
 intro vf pf hmu hR
 have e21:=hR 21 (by decide)
 have e22:=hR 22 (by decide)
 refine bL [21,22] [21,22] A (aW (sk 128 (congrArg some e21.1) (sk 129 (congrArg some e22.1) (aB _))) (List.sublist_append_right _ _) ?_)
 exact aT (dF 2 A A A A (aE hr.an))
 intro vf pf hmu hR
 have e23:=hR 23 (by decide)
 refine bL [23] [23] A (aW (sk 130 (congrArg some e23.1) (aB _)) (List.sublist_append_right _ _) ?_)
 exact aT (cC (k0:=1) A A A (aE hr.an) (by omega))
 intro vf pf hmu hR
 have e24:=hR 24 (by decide)
 refine bL [24] [24] A (aW (sk 131 (congrArg some e24.1) (aB _)) (List.sublist_append_right _ _) ?_)
 exact aT (bG (u:=jI ((n.gs.getD i an0).b)) A A A (aE hr.an) ((dE anC 2 (fun _=>A) n.gs an0 (show i<_ by omega) (by decide)).trans A))
 intro vf pf hmu hR
 have e25:=hR 25 (by decide)
 refine bL [25] [25] A (bH (sk 132 (congrArg some e25.1) (aB _)) ?_)
 exact aT (fF A A A (by refine⟨?_,?_,?_⟩<;>omega))
 intro vf pf hmu hR
 have e19:=hR 19 (by decide)
 have e26:=hR 26 (by decide)
 refine bL [19,26] [19,26] A (aW (sk 126 (congrArg some e19.1) (sk 133 (congrArg some e26.1) (aB _))) (List.sublist_append_right _ _) ?_)
 exact aT (dF 1 A A A A (aG 2 A))
 intro vf pf hmu hR
 have e27:=hR 27 (by decide)
 refine bL [27] [27] A (aW (sk 134 (congrArg some e27.1) (aB _)) (List.sublist_append_right _ _) ?_)
 exact aT (rR A A A (aG 2 A))
 intro vf pf hmu hR
 refine bL [] [] A (bH (aI [3] A) ?_)
 exact aT (cQ 2 A A A)
 intro vf pf hmu hR
 have e29:=hR 29 (by decide)
 refine bL [29] [29] A (aW (sk 136 (congrArg some e29.1) (aB _)) (List.sublist_append_right _ _) ?_)
 exact aT (aN A A A (aH 7 A A))
 intro vf pf hmu hR
 refine bL [] [] A (bH (aI [14] A) ?_)
 exact aT (aK A)
 intro vf pf hmu hR
 have e30:=hR 30 (by decide)
 have e31:=hR 31 (by decide)
 refine bL [30,31] [30,31] A (aW (sk 137 (congrArg some e30.1) (sk 138 (congrArg some e31.1) (aB _))) (List.sublist_append_right _ _) ?_)
 exact aT (dF 2 A A A A (aE hr.an))
 intro vf pf hmu hR
 have e32:=hR 32 (by decide)
 refine bL [32] [32] A (aW (sk 139 (congrArg some e32.1) (aB _)) (List.sublist_append_right _ _) ?_)
 exact aT (cC (k0:=1) A A A (aE hr.an) (by omega))
 intro vf pf hmu hR
 have e33:=hR 33 (by decide)
 refine bL [33] [33] A (aW (sk 140 (congrArg some e33.1) (aB _)) (List.sublist_append_right _ _) ?_)
 exact aT (bG (u:=jI ((n.gs.getD i an0).b)) A A A (aE hr.an) ((dE anC 2 (fun _=>A) n.gs an0 (show i<_ by omega) (by decide)).trans A))
 intro vf pf hmu hR
 have e34:=hR 34 (by decide)
 refine bL [34] [34] A (bH (sk 141 (congrArg some e34.1) (aB _)) ?_)
 exact aT (cP A (by decide) A A (r:=((n.gs.getD i an0).b) % 2) (Bit.and_one _ (by omega) (by omega)))
 intro vf pf hmu hR
 have e28:=hR 28 (by decide)
 have e35:=hR 35 (by decide)
 refine bL [28,35] [28,35] A (bH (sk 135 (congrArg some e28.1) (sk 142 (congrArg some e35.1) (aB _))) ?_)
 exact aT (cP A (by decide) A A (r:=mpL q.tr.xs ((n.gs.getD i an0).b)) (lD (by omega) (by omega)))
 intro vf pf hmu hR
 have e0:=hR 0 (by decide)
 have e18:=hR 18 (by decide)
 have e36:=hR 36 (by decide)
 refine bL [0,18,36] [0,18,36] A (aW (sk 107 (congrArg some e0.1) (sk 125 (congrArg some e18.1) (sk 143 (congrArg some e36.1) (aB _)))) (List.sublist_append_right _ _) ?_)
 exact aJ A A (fun w hm=>iF q.o (mpL q.tr.xs ((n.gs.getD i an0).a)) (mpL q.tr.xs ((n.gs.getD i an0).b)) w ((hps w (hm.holds _ (bX (i:=3) A))).rds (aG 1 A w hm)) ho (by first|omega|exact iW (by omega)) (by first|omega|exact iW (by omega)))
 intro vf pf hmu hR
 have e37:(fun u_ p_=>∃(ps:List HP) (m:Nt) (z:Int),u_=.tuple #[m.agg,jI z]∧p_=[rS9 46 3 m.sv m.ss sqC,bigE ps]∧(∀w,(bigE ps).holds w→NtRest w m)∧(m.sv.oneCell'=true∧m.av.oneCell'=true∧m.ov.oneCell'=true)∧CpS q.o m∧OpS q.o m (andO q.o.fst q.o.gs (mpL q.tr.xs ((n.gs.getD i an0).a)) (mpL q.tr.xs ((n.gs.getD i an0).b))) z) (vf 37) (pf 37):=hR 37 (by decide)
 obtain⟨v51,vE37⟩:∃x,vf 37=x:=⟨_,rfl⟩
 obtain⟨p52,pE37⟩:∃x,pf 37=x:=⟨_,rfl⟩
 have R53:=e37
 rw[vE37,pE37] at R53
 obtain⟨ps53,m53,z53,rfl,rfl,hpm53,⟨o1mhR53,o2mhR53,o3mhR53⟩,cpm53,hom53⟩:=R53
 have gm53:=fQ ho cpm53 hom53
 refine bL [37] [37] A (bU (sk 144 (congrArg some vE37) (aB _)) (by simp only[pE37,vE37,fS]<;>rfl) ?_)
 exact cD (aT (aK A)) (fun _ _ h=>⟨h.1.trans (by show _=(.tuple #[.agg #[jI (intOf_o (ag9 0 (tp9 0 (vf 37)))),(ag9 1 (tp9 0 (vf 37))),(ag9 2 (tp9 0 (vf 37))),(ag9 3 (tp9 0 (vf 37)))],jI (intOf_o (tp9 1 (vf 37)))]:Value);first|(rw[vE37];done)|(rw[vE37];rfl)),h.2⟩)
 intro vf pf hmu hR
 have e37:(fun u_ p_=>∃(ps:List HP) (m:Nt) (z:Int),u_=.tuple #[m.agg,jI z]∧p_=[rS9 46 3 m.sv m.ss sqC,bigE ps]∧(∀w,(bigE ps).holds w→NtRest w m)∧(m.sv.oneCell'=true∧m.av.oneCell'=true∧m.ov.oneCell'=true)∧CpS q.o m∧OpS q.o m (andO q.o.fst q.o.gs (mpL q.tr.xs ((n.gs.getD i an0).a)) (mpL q.tr.xs ((n.gs.getD i an0).b))) z) (vf 37) (pf 37):=hR 37 (by decide)
 obtain⟨v51,vE37⟩:∃x,vf 37=x:=⟨_,rfl⟩
 obtain⟨p52,pE37⟩:∃x,pf 37=x:=⟨_,rfl⟩
 have R53:=e37
 rw[vE37,pE37] at R53
 obtain⟨ps53,m53,z53,rfl,rfl,hpm53,⟨o1mhR53,o2mhR53,o3mhR53⟩,cpm53,hom53⟩:=R53
 have gm53:=fQ ho cpm53 hom53
 have e38:(vf 38)=.tuple #[.agg #[jI (intOf_o (ag9 0 (tp9 0 (vf 37)))),(ag9 1 (tp9 0 (vf 37))),(ag9 2 (tp9 0 (vf 37))),(ag9 3 (tp9 0 (vf 37)))],jI (intOf_o (tp9 1 (vf 37)))]∧(pf 38)=[]:=hR 38 (by decide)
 rw[vE37] at e38
 refine bL [37,38] [37,38] A (bU (sk 106 (congrArg some e38.1) (aB _)) (by simp only[pE37,vE37,e38.2,fS]<;>rfl) ?_)
 exact cD (aT (aK A)) (fun _ _ h=>⟨h.1.trans (by show _=(.agg #[jI (intOf_o (ag9 0 (tp9 0 (vf 37)))),(ag9 1 (tp9 0 (vf 37))),(ag9 2 (tp9 0 (vf 37))),(ag9 3 (tp9 0 (vf 37)))]:Value);first|(rw[vE37];done)|(rw[vE37];rfl)),h.2⟩)
 intro vf pf hmu hR
 have e37:(fun u_ p_=>∃(ps:List HP) (m:Nt) (z:Int),u_=.tuple #[m.agg,jI z]∧p_=[rS9 46 3 m.sv m.ss sqC,bigE ps]∧(∀w,(bigE ps).holds w→NtRest w m)∧(m.sv.oneCell'=true∧m.av.oneCell'=true∧m.ov.oneCell'=true)∧CpS q.o m∧OpS q.o m (andO q.o.fst q.o.gs (mpL q.tr.xs ((n.gs.getD i an0).a)) (mpL q.tr.xs ((n.gs.getD i an0).b))) z) (vf 37) (pf 37):=hR 37 (by decide)
 obtain⟨v51,vE37⟩:∃x,vf 37=x:=⟨_,rfl⟩
 obtain⟨p52,pE37⟩:∃x,pf 37=x:=⟨_,rfl⟩
 have R53:=e37
 rw[vE37,pE37] at R53
 obtain⟨ps53,m53,z53,rfl,rfl,hpm53,⟨o1mhR53,o2mhR53,o3mhR53⟩,cpm53,hom53⟩:=R53
 have gm53:=fQ ho cpm53 hom53
 have e38:(vf 38)=.tuple #[.agg #[jI (intOf_o (ag9 0 (tp9 0 (vf 37)))),(ag9 1 (tp9 0 (vf 37))),(ag9 2 (tp9 0 (vf 37))),(ag9 3 (tp9 0 (vf 37)))],jI (intOf_o (tp9 1 (vf 37)))]∧(pf 38)=[]:=hR 38 (by decide)
 rw[vE37] at e38
 refine bL [37,38] [37,38] A (bU (sk 106 (congrArg some e38.1) (aB _)) (by simp only[pE37,vE37,e38.2,fS]<;>rfl) ?_)
 exact cD (aT (aK A)) (fun _ _ h=>⟨h.1.trans (by show _=(jI (intOf_o (tp9 1 (vf 37))):Value);first|(rw[vE37];done)|(rw[vE37];rfl)),h.2⟩)
 intro vf pf hmu hR
 have e37:(fun u_ p_=>∃(ps:List HP) (m:Nt) (z:Int),u_=.tuple #[m.agg,jI z]∧p_=[rS9 46 3 m.sv m.ss sqC,bigE ps]∧(∀w,(bigE ps).holds w→NtRest w m)∧(m.sv.oneCell'=true∧m.av.oneCell'=true∧m.ov.oneCell'=true)∧CpS q.o m∧OpS q.o m (andO q.o.fst q.o.gs (mpL q.tr.xs ((n.gs.getD i an0).a)) (mpL q.tr.xs ((n.gs.getD i an0).b))) z) (vf 37) (pf 37):=hR 37 (by decide)
 obtain⟨v51,vE37⟩:∃x,vf 37=x:=⟨_,rfl⟩
 obtain⟨p52,pE37⟩:∃x,pf 37=x:=⟨_,rfl⟩
 have R53:=e37
 rw[vE37,pE37] at R53
 obtain⟨ps53,m53,z53,rfl,rfl,hpm53,⟨o1mhR53,o2mhR53,o3mhR53⟩,cpm53,hom53⟩:=R53
 have gm53:=fQ ho cpm53 hom53
 have e39:(vf 39)=.agg #[jI (intOf_o (ag9 0 (tp9 0 (vf 37)))),(ag9 1 (tp9 0 (vf 37))),(ag9 2 (tp9 0 (vf 37))),(ag9 3 (tp9 0 (vf 37)))]∧(pf 39)=[]:=hR 39 (by decide)
 rw[vE37] at e39
 refine Or.inl ⟨A,?_⟩
 show RunM _ _ _ (pf 43) (([37,39]:List Nat).flatMap pf++_) (envOf3 _ vf [37,39]++_) _ _
 have hmu0:pf 43=[nB9 b39 q.o]:=hmu 0 (show 0<1 by omega)
 rw[hmu0]
 exact cV (sk 15 A (sk 145 (congrArg some e39.1) (aB _))) (by simp only[pE37,vE37,e39.2,fS]<;>rfl) (fD (dR (us:=[jI m53.ins,m53.sv,m53.av,m53.ov]) (off:=0) 0 A A A A A A (aA A (aA o1mhR53 (aA o2mhR53 (aA o3mhR53 bA)))) A A) (fun v_ p_ h=>by show p_=[boxE b39 #[jI (intOf_o (ag9 0 (tp9 0 (vf 37)))),(ag9 1 (tp9 0 (vf 37))),(ag9 2 (tp9 0 (vf 37))),(ag9 3 (tp9 0 (vf 37)))] 28];rw[vE37];exact h))
 intro vf pf hmu hR
 have e37:(fun u_ p_=>∃(ps:List HP) (m:Nt) (z:Int),u_=.tuple #[m.agg,jI z]∧p_=[rS9 46 3 m.sv m.ss sqC,bigE ps]∧(∀w,(bigE ps).holds w→NtRest w m)∧(m.sv.oneCell'=true∧m.av.oneCell'=true∧m.ov.oneCell'=true)∧CpS q.o m∧OpS q.o m (andO q.o.fst q.o.gs (mpL q.tr.xs ((n.gs.getD i an0).a)) (mpL q.tr.xs ((n.gs.getD i an0).b))) z) (vf 37) (pf 37):=hR 37 (by decide)
 obtain⟨v51,vE37⟩:∃x,vf 37=x:=⟨_,rfl⟩
 obtain⟨p52,pE37⟩:∃x,pf 37=x:=⟨_,rfl⟩
 have R53:=e37
 rw[vE37,pE37] at R53
 obtain⟨ps53,m53,z53,rfl,rfl,hpm53,⟨o1mhR53,o2mhR53,o3mhR53⟩,cpm53,hom53⟩:=R53
 have gm53:=fQ ho cpm53 hom53
 have e40:(vf 40)=jI (intOf_o (tp9 1 (vf 37)))∧(pf 40)=[]:=hR 40 (by decide)
 rw[vE37] at e40
 have e41:(pf 41)=[boxE b39 #[jI (intOf_o (ag9 0 (tp9 0 (vf 37)))),(ag9 1 (tp9 0 (vf 37))),(ag9 2 (tp9 0 (vf 37))),(ag9 3 (tp9 0 (vf 37)))] 28]:=hR 41 (by decide)
 rw[vE37] at e41
 have pE41:=e41
 have q0:=hR 0 (by decide)
 have q1:=hR 1 (by decide)
 have q2:=hR 2 (by decide)
 have q3:=hR 3 (by decide)
 have q4:=hR 4 (by decide)
 have q5:=hR 5 (by decide)
 have q6:=hR 6 (by decide)
 have q7:=hR 7 (by decide)
 have q8:=hR 8 (by decide)
 have q9:=hR 9 (by decide)
 have q10:=hR 10 (by decide)
 have q11:=hR 11 (by decide)
 have q12:=hR 12 (by decide)
 have q13:=hR 13 (by decide)
 have q14:=hR 14 (by decide)
 have q15:=hR 15 (by decide)
 have q16:=hR 16 (by decide)
 have q17:=hR 17 (by decide)
 have q18:=hR 18 (by decide)
 have q19:=hR 19 (by decide)
 have q20:=hR 20 (by decide)
 have q21:=hR 21 (by decide)
 have q22:=hR 22 (by decide)
 have q23:=hR 23 (by decide)
 have q24:=hR 24 (by decide)
 have q25:=hR 25 (by decide)
 have q26:=hR 26 (by decide)
 have q27:=hR 27 (by decide)
 have q28:=hR 28 (by decide)
 have q29:=hR 29 (by decide)
 have q30:=hR 30 (by decide)
 have q31:=hR 31 (by decide)
 have q32:=hR 32 (by decide)
 have q33:=hR 33 (by decide)
 have q34:=hR 34 (by decide)
 have q35:=hR 35 (by decide)
 have q36:=hR 36 (by decide)
 have q38:=hR 38 (by decide)
 have q39:=hR 39 (by decide)
 have q40:=hR 40 (by decide)
 refine cE (bO [75,66,34,16,15,14,13,12,11,10,9,8,7,6,3,2,1,0] _ (sk 146 (congrArg some e40.1) (aB _)) A) (by simp only[pE37,vE37,pE41,q0.2,q1.2,q2.2,q3.2,q4.2,q5.2,q6.2,q7.2,q8.2,q9.2,q10.2,q11.2,q12.2,q13.2,q14.2,q15.2,q16.2,q17.2,q18.2,q19.2,q20.2,q21.2,q22.2,q23.2,q24.2,q25.2,q26.2,q27.2,q28.2,q29.2,q30.2,q31.2,q32.2,q33.2,q34.2,q35.2,q36.2,q38.2,q39.2,q40.2,fS]<;>rfl) ?_
 simp only[List.drop_succ_cons,List.drop_zero]
 refine dJ 1 A ?_
 refine aZ 11 [10,9,8,7,1,5,0,3,2] A A (by decide) ?_
 exact gC m53 ps53 z53 ⟨gm53.gr.ok,hsk.trans gm53.gr.cp.skel,gm53.gr.cnt,gm53.ln,hpm53,⟨o1mhR53,o2mhR53,o3mhR53⟩⟩ (cT A) (dS A)
 intro m9 ps9 x9 hm54
 obtain⟨hm9,hsk9,hle9,hx9,hps9,⟨o1p,o2p,o3p⟩⟩:=hm54
 have hcm9:=eX hm9
 refine aC (aC (bZ 1 A ?_))
 refine bQ A A A A A A (fun h55=>?_) (fun h55=>?_)
 refine bR (aR A (cF (aP A (aF (cs:=[jI n.ins,n.sv,n.av,n.ov]) A A A A A (aD 8 A 0 A)) ?_)))
 refine eB A A A (aJ A A (fun w hm=>fA n w (hr.below hm.bel) hn)) ?_
 intro v56 p57 R58
 obtain⟨pqc,mc,rfl,rfl,hpqc,⟨o1mc,o3mc⟩,hcpmc⟩:=R58
 refine iA (fun w hm=>(aG 1 A w hm).one) (fun o2mc=>?_)
 refine bI (cs':=#[jI mc.ins,mc.sv,mc.av,mc.ov]) (i:=10) (off:=0) (us:=[jI mc.ins,mc.sv,mc.av,mc.ov]) A A A A A A A (aA A (aA o1mc (aA o2mc (aA o3mc bA)))) A A A (aU 1 A ?_)
 refine aV (aL ?_)
 refine aQ (fL ?_)
 refine aQ (aL ?_)
 refine aZ 12 [10,2,1,0] A A (by decide) ?_
 refine cB 3 A ?_
 exact bV (rs:=[.cell 6 28,.tmp 7]) (vs:=[.agg #[jI mc.ins,mc.sv,mc.av,mc.ov],.bool false]) (post:=[bigE [rS9 46 3 mc.sv mc.ss sqC,rS9 67 2 mc.av mc.gs anC,bigE pqc]]) A ⟨⟨b2,0,[jI mc.ins,mc.sv,mc.av,mc.ov],A,A,by kernel_rfl,by kernel_rfl,aD 1 A 0 A⟩,A,trivial⟩ A (eJ [0] A) ⟨_,mc,_,A,A,fun w hw=>⟨bT (aX hw cL),(hpqc w (aX hw (dK (dK cL)))).1,bT (aX hw (dK cL)),(hpqc w (aX hw (dK (dK cL)))).2⟩,⟨o1mc,o2mc,o3mc⟩,(hcpmc.grw hn).ok⟩
 refine bR (aS A (bY (cF (aP A (aF (cs:=[jI m9.ins,m9.sv,m9.av,m9.ov]) A A A A A (aD 0 A 0 A)) ?_))))
 refine bI (cs':=#[jI m9.ins,m9.sv,m9.av,m9.ov]) (i:=1) (off:=0) (us:=[jI m9.ins,m9.sv,m9.av,m9.ov]) A A A A A A A (aA A (aA o1p (aA o2p (aA o3p bA)))) A A A (bR (bZ 2 A ?_))
 refine dP A (bB (z:=jI 0) (s:=1) (cs:=(mI [x9])) A Tryz.underlying26 A (by decide) A (by kernel_rfl) A) ?_
 intro g59
 refine cW (i:=4) (z:=jI 0) (bytes:=8) A A A A Tryz.underlying26 (by kernel_rfl) A A A A (aG 0 A) (cO _) (by first|omega|(simp;done)|(simp;omega)) (cH q.tr.xs ([x9])) (dL q.tr.xs ([x9])) (fun _=>A) ?_
 intro v60
 refine dJ 1 A (cK (bZ 1 A (aP A (dM A A A) (dJ 1 A ?_))))
 have hmk2:MapOk (q.tr.xs++[x9]) (n.fst+((i+1:Nat):Int)) m9.cnt:=by have h9:=(hmk.up hle9).app (x:=x9) ⟨by omega,hx9⟩;rwa [show n.fst+(i:Int)+1=n.fst+((i+1:Nat):Int) by omega] at h9
 exact cG (i+1) ⟨m9,CRow.mk v60 (q.tr.xs++([x9])),ps9⟩ ⟨by omega,hm9,hsk9,hmk2,hps9,⟨o1p,o2p,o3p⟩⟩ (by omega) (cT A) (eJ [2,0,0,0,0,0,0,0] A)
 refine bR (aS A ?_)
 refine bM (dI ?_)
 refine aO (bF (cF ?_))
 refine iR 8 [7,6,5,4,0,3,2,1] A A (by decide) ?_
 refine pV 3 A ?_
 refine aP A (aF (cs:=[jI q.o.ins,q.o.sv,q.o.av,q.o.ov]) A A A A A (aD 1 A 0 A)) (aP A (aF (cs:=[jI n.ins,n.sv,n.av,n.ov]) A A A A A (aD 5 A 0 A)) (aM 1 A ?_))
 refine eH (R:=(fun u_ p_=>∃(ps:List HP) (m:Nt),u_=m.agg∧p_=bigE ps∧(∀w,(bigE ps).holds w→RdsNt w m)∧(m.sv.oneCell'=true∧m.av.oneCell'=true∧m.ov.oneCell'=true)∧NtOk m∧Skel n m∧m.gs.length≤q.o.gs.length)) 0 A A A A A (fun l' w hm=>kC n q.o q.tr.xs q.tr.v q.ps _ _ w hm hr hn ho hsk (by rwa [show n.fst+(i:Int)=n.cnt by omega] at hmk) hps ⟨o1o,o2o,o3o⟩) ?_
 intro v61 p62 R63
 obtain⟨rs,m3,rfl,rfl,hrs,⟨o1r,o2r,o3r⟩,hm3,hs3,hl3⟩:=R63
 refine eC (l':=[bigE rs,nB9 b36 q.o,rS9 127 2 cvv cx anC,boxE b15 #[jI (cut.length:Int),jI tb] 111,eB9 b2,nB9 b1 n]) A ?_
 refine bI (cs':=#[jI m3.ins,m3.sv,m3.av,m3.ov]) (i:=4) (off:=0) (us:=[jI m3.ins,m3.sv,m3.av,m3.ov]) A A A A A A A (aA A (aA o1r (aA o2r (aA o3r bA)))) A A A (aU 1 A ?_)
 exact aV (bV (rs:=[.cell 6 28,.tmp 7]) (vs:=[.agg #[jI m3.ins,m3.sv,m3.av,m3.ov],.bool true]) (post:=[bigE rs]) A ⟨⟨b2,0,[jI m3.ins,m3.sv,m3.av,m3.ov],A,A,by kernel_rfl,by kernel_rfl,aD 4 A 0 A⟩,A,trivial⟩ A (eJ [0] A) ⟨_,m3,_,A,A,hrs,⟨o1r,o2r,o3r⟩,hm3⟩)
 refine bR ?_
 refine lP (α:=List An) (β:=Value) (γ:=Bool) (fun cx cvv fl=>[rS9 127 2 cvv cx anC,boxE b15 #[jI (cut.length:Int),jI tb] 111,eB9 b2,nB9 b1 n]) (fun cx cvv fl=>[(0,.agg #[jI n.ins,n.sv,n.av,n.ov]),(1,jI node),(2,cv),(3,pI b1),(6,pI b2),(7,.bool false),(8,pI b15),(9,cvv),(10,v22),(11,.bool fl),(34,.bool false)]) (fun cx cvv fl=>CbR cx) ?_ ?_
 refine bD 1 A (hH A ?_)
 exact gC cs1 v16 false hcb1 (cT A) (eJ [1,0,0,0] A)
 intro cx cvv fl hm64
 have hcx:=hm64
 refine cF (aP A (aF (cs:=[jI n.ins,n.sv,n.av,n.ov]) A A A A A (aD 3 A 0 A)) ?_)
 refine eB A A A (aJ A A (fun w hm=>iI n w (hr.below hm.bel) hn)) ?_
 intro v65 p66 R67
 obtain⟨pe,e0,tv,rfl,rfl,hpe,o1e,⟨hav,hov,hgs0,hos0⟩,hsk0,hok0⟩:=R67
 simp only[Nt.agg,hav,hov]
 have hme:NtOk (Nt.mk e0.ins e0.sv (.slice none 0 0) (.slice none 0 0) e0.ss [] []):=by have h9:=hok0;cases e0;simp only at hav hov hgs0 hos0;subst hav hov hgs0 hos0;exact h9
 have hse:Skel n (Nt.mk e0.ins e0.sv (.slice none 0 0) (.slice none 0 0) e0.ss [] []):=⟨hsk0.ins,hsk0.ss⟩
 have hce:(Nt.mk e0.ins e0.sv (.slice none 0 0) (.slice none 0 0) e0.ss [] []).cnt=n.fst:=by rw[←hse.fst];exact Int.add_zero _
 refine aM 3 A (cR A (bP (z:=.agg #[jI 0,.slice none 0 0,.slice none 0 0,.slice none 0 0]) A A) ?_)
 intro b68
 refine bI (cs':=#[jI e0.ins,e0.sv,.slice none 0 0,.slice none 0 0]) (i:=0) (off:=0) (us:=[jI e0.ins,e0.sv,.slice none 0 0,.slice none 0 0]) A A A A A A A (aA A (aA o1e (aA A (aA A bA)))) A A A (aU 1 A (aC (bD 1 A (bE ?_))))
 refine gT (α:=Nat) (β:=BSt) [0,1,2,3,6,7,8,9,10,11,12,34] rfl (fun i q=>[nB9 b68 q.o,rS9 46 3 q.o.sv q.o.ss sqC,rI9 3 q.tr.v q.tr.xs,bigE q.ps,rS9 127 2 cvv cx anC,boxE b15 #[jI (cut.length:Int),jI tb] 111,eB9 b2,nB9 b1 n]) (fun i q=>[(13,q.tr.v),(14,jI (i:Int))]) (fun i q=>i≤n.gs.length∧NtOk q.o∧Skel n q.o∧MapOk q.tr.xs (n.fst+(i:Int)) q.o.cnt∧(∀w,(bigE q.ps).holds w→NtRest w q.o)∧(q.o.sv.oneCell'=true∧q.o.av.oneCell'=true∧q.o.ov.oneCell'=true)) (fun i q=>n.gs.length-i) 0 ⟨Nt.mk e0.ins e0.sv (.slice none 0 0) (.slice none 0 0) e0.ss [] [],CRow.mk _ (evs2 n.fst.toNat),_⟩ ⟨Nat.zero_le _,hme,hse,by rw[hce];have h9:=mE (k:=n.fst.toNat) (m:=n.fst) (by omega);rw[Int.toNat_of_nonneg (by omega)] at h9;simpa using h9,fun w hw=>⟨hpe w hw,dN (w0:=w) (l:=[]) w (Mem.refl w),dN (w0:=w) (l:=[]) w (Mem.refl w)⟩,⟨o1e,rfl,rfl⟩⟩ (cT rfl) (dS rfl) ?_
 intro i q hi69
 obtain⟨hi,ho,hsk,hmk,hps,⟨o1o,o2o,o3o⟩⟩:=hi69
 have hmk1:=hmk.1
 have hco:=eX ho
 refine aC (aC (bZ 1 A (aP A (cQ 2 A A A) (aP A (aN A A A (aH 7 A A)) (aP A (bC A Tryz.underlying25 A (aE hr.an)) ?_)))))
 refine bQ A A A A A A (fun h70=>?_) (fun h70=>?_)
 refine bR (aR A (bY (fM (cF (aP A (aF (cs:=[jI q.o.ins,q.o.sv,q.o.av,q.o.ov]) A A A A A (aD 0 A 0 A)) ?_)))))
 refine cR A (bP (z:=.agg #[jI 0,.slice none 0 0,.slice none 0 0,.slice none 0 0]) A A) ?_
 intro b71
 refine bI (cs':=#[jI q.o.ins,q.o.sv,q.o.av,q.o.ov]) (i:=0) (off:=0) (us:=[jI q.o.ins,q.o.sv,q.o.av,q.o.ov]) A A A A A A A (aA A (aA o1o (aA o2o (aA o3o bA)))) A A A (bR (bD 1 A ?_))
 refine lP (α:=Nt) (β:=List HP) (γ:=Int) (fun m9 ps9 x9=>[nB9 b71 m9,nB9 b68 q.o,rS9 46 3 m9.sv m9.ss sqC,rI9 3 q.tr.v q.tr.xs,bigE ps9,rS9 127 2 cvv cx anC,boxE b15 #[jI (cut.length:Int),jI tb] 111,eB9 b2,nB9 b1 n]) (fun m9 ps9 x9=>[(0,.agg #[jI n.ins,n.sv,n.av,n.ov]),(1,jI node),(2,cv),(3,pI b1),(6,pI b2),(7,.bool false),(8,pI b15),(9,cvv),(10,v22),(11,.bool fl),(12,pI b68),(13,q.tr.v),(14,jI (i:Int)),(15,pI b71),(16,jI x9),(34,.bool false),(66,.bool true)]) (fun m9 ps9 x9=>NtOk m9∧Skel n m9∧q.o.cnt≤m9.cnt∧x9<2*m9.cnt∧(∀w,(bigE ps9).holds w→NtRest w m9)∧(m9.sv.oneCell'=true∧m9.av.oneCell'=true∧m9.ov.oneCell'=true)) ?_ ?_
 refine cF (aP A (aF (cs:=[jI n.ins,n.sv,n.av,n.ov]) A A A A A (aD 8 A 0 A)) ?_)
 refine dA A (aJ A A (fun w hm=>aY (dD n w (hr.below hm.bel) hn))) (aM 1 A (aP A (dM A A A) (aM 1 A ?_)))
 refine cM A A A A A A (fun h72=>?_) (fun h72=>?_)
 refine bR (aR A (cF ?_))
 refine dP A (dH (s:=1) A Tryz.underlying26 A) ?_
 intro g73
 refine aU 1 A (aC (bD 1 A (bE ?_)))
 refine fE [rowE 3 1 (.slice (some ⟨g73,0,none⟩) 0 0) (([]:List Int).length) (mI ([]:List Int)),nB9 b71 q.o,nB9 b68 q.o,rS9 46 3 q.o.sv q.o.ss sqC,rI9 3 q.tr.v q.tr.xs,bigE q.ps,rS9 127 2 cvv cx anC,boxE b15 #[jI (cut.length:Int),jI tb] 111,eB9 b2,nB9 b1 n] (fun w hm=>hm) ?_
 refine iC (α:=Nat) (β:=List Int) (γ:=Value) [0,1,2,3,6,7,8,9,10,11,12,13,14,15,16,34,66,75] A (fun k ls lv=>[rI9 3 lv ls,nB9 b71 q.o,nB9 b68 q.o,rS9 46 3 q.o.sv q.o.ss sqC,rI9 3 q.tr.v q.tr.xs,bigE q.ps,rS9 127 2 cvv cx anC,boxE b15 #[jI (cut.length:Int),jI tb] 111,eB9 b2,nB9 b1 n]) (fun k ls lv=>[(17,lv),(18,jI (k:Int))]) (fun k ls lv=>k≤cut.length∧ls.length=k∧∀x∈ls,LtOk x q.o.cnt) (fun k ls lv=>cut.length-k) 0 [] _ ⟨Nat.zero_le _,A,fun x hx=>by cases hx⟩ (cT A) (dS A) ?_
 intro k ls lv hi74
 obtain⟨hk,hlsl,hlsr⟩:=hi74
 refine aC (aC (bZ 2 A (aP A (bC A Tryz.underlying26 A (aE hcr)) ?_)))
 refine bQ A A A A A A (fun h75=>?_) (fun h75=>?_)
 refine bR (aR A (bY (fM (bJ ?_))))
 have hcb9:=tB hn hnd.1 hcp hbn (k:=k) (by omega)
 refine aM 4 A (aP A (dF 1 A A A A (aE hcr)) (aP A (hC A A A (aE hcr)) (aP A (dF 1 A A A A (aG 4 A)) (aP A (rR A A A (aG 4 A)) ?_))))
 refine dP A (bB (z:=jI 0) (s:=1) (cs:=(mI [q.tr.xs.getD ((cut.getD k 0).toNat) 0])) A Tryz.underlying26 A (by decide) A (by kernel_rfl) A) ?_
 intro g76
 refine cW (i:=1) (z:=jI 0) (bytes:=8) A A A A Tryz.underlying26 (by kernel_rfl) A A A A (aG 0 A) (cO _) (by first|omega|(simp;done)|(simp;omega)) (cH ls ([q.tr.xs.getD ((cut.getD k 0).toNat) 0])) (dL ls ([q.tr.xs.getD ((cut.getD k 0).toNat) 0])) (fun _=>A) ?_
 intro v77
 refine dJ 1 A (cK (bZ 1 A (aP A (dM A A A) (dJ 1 A ?_))))
 exact cI (k+1) (ls++([q.tr.xs.getD ((cut.getD k 0).toNat) 0])) v77 ⟨by omega,by rw[List.length_append,List.length_singleton,hlsl],fun x hx=>by rcases List.mem_append.1 hx with hx|hx;exact hlsr x hx;rw[List.mem_singleton] at hx;subst hx;exact hmk.2 _ (by omega)⟩ (by omega) (cT rfl) (eJ [1,0,0,0,0,0,0,0,0,0] rfl)
 refine bR (aS A ?_)
 refine bM (dI ?_)
 refine aO (bF (cF (aP A (aF (cs:=[jI q.o.ins,q.o.sv,q.o.av,q.o.ov]) A A A A A (aD 2 A 0 A)) (aM 2 A ?_))))
 refine eB A A A (aJ A A (fun w hm=>pJ q.o ls cx _ _ w ((hps w (hm.holds _ (bX (i:=5) A))).rds (aG 3 A w hm)) ho ((aG 0 A) w hm) ((aG 6 A) w hm) hcx (by omega) hlsr)) ?_
 intro v78 p79 R80
 obtain⟨ps80,m80,z80,rfl,rfl,hpm80,⟨o1mhR80,o2mhR80,o3mhR80⟩,gm80,lm80⟩:=R80
 have rm80:=eX gm80.ok
 refine aM 3 A (bI (cs':=#[jI m80.ins,m80.sv,m80.av,m80.ov]) (i:=3) (off:=0) (us:=[jI m80.ins,m80.sv,m80.av,m80.ov]) A A A A A A A (aA A (aA o1mhR80 (aA o2mhR80 (aA o3mhR80 bA)))) A A A ?_)
 refine aU 1 A (aC (bZ 1 A ?_))
 refine gO A A A A A A (fun h81=>?_) (fun h81=>?_)
 refine bR (aR A (bZ 2 A ?_))
 refine bW (fun h82=>?_) (fun h82=>?_)
 refine dA A (aJ A A (fun w hm=>aY (jX true w))) (aP A (cP A (by decide) A A (r:=flX z80 true) (oC (by omega) (by omega))) (dJ 1 A ?_))
 refine aZ 12 [11,10,9,8,1,6,0,4,3] A A (by decide) ?_
 exact gC m80 ps80 (flX z80 true) ⟨gm80.ok,hsk.trans gm80.cp.skel,gm80.cnt,(uN ⟨by omega,lm80⟩).2,hpm80,⟨o1mhR80,o2mhR80,o3mhR80⟩⟩ (cT A) (dS A)
 refine dA A (aJ A A (fun w hm=>aY (jX false w))) (aP A (cP A (by decide) A A (r:=flX z80 false) (oC (by omega) (by omega))) (dJ 1 A ?_))
 refine aZ 12 [11,10,9,8,1,6,0,4,3] A A (by decide) ?_
 exact gC m80 ps80 (flX z80 false) ⟨gm80.ok,hsk.trans gm80.cp.skel,gm80.cnt,(uN ⟨by omega,lm80⟩).2,hpm80,⟨o1mhR80,o2mhR80,o3mhR80⟩⟩ (cT A) (dS A)
 refine bR (hH A ?_)
 refine aZ 12 [11,10,9,8,1,6,0,4,3] A A (by decide) ?_
 exact gC m80 ps80 z80 ⟨gm80.ok,hsk.trans gm80.cp.skel,gm80.cnt,lm80,hpm80,⟨o1mhR80,o2mhR80,o3mhR80⟩⟩ (cT A) (dS A)
 refine bR (aS A ?_)
 have hani:=hn.an i (by omega)
 have hia:LtOk (n.gs.getD i an0).a (n.fst+(i:Int)):=hani.1
 have hib:LtOk (n.gs.getD i an0).b (n.fst+(i:Int)):=hani.2
 obtain⟨hta,hta2⟩:=hmk.lit hia
 obtain⟨htb2,htb3⟩:=hmk.lit hib
 have hia2:=hia
 have hib2:=hib
 unfold LtOk at hta hta2 htb2 htb3 hia2 hib2
 refine eF (l:=[nB9 b68 q.o,rS9 46 3 q.o.sv q.o.ss sqC,rI9 3 q.tr.v q.tr.xs,bigE q.ps,rS9 127 2 cvv cx anC,boxE b15 #[jI (cut.length:Int),jI tb] 111,eB9 b2,nB9 b1 n]) A 42 [0,1,2,3,4,5,6,7,8,9,10,11,12,13,14,15,16,17,18,19,20,21,22,23,24,25,26,27,28,29,30,31,32,33,34,35,36,37,38,39,40,41] (List.take 42 _) (List.drop 42 _) [[],[],[],[2],[],[3,4],[5],[6],[7],[1,8],[9],[],[11],[],[12,13],[14],[15],[16],[10,17],[],[],[20],[],[21,22],[23],[24],[25],[19,26],[27],[],[29],[],[30,31],[32],[33],[34],[28,35],[0,18,36],[37],[37,38],[37,38],[37,39]] [some 107,some 108,some 109,some 110,some 111,some 112,some 113,some 114,some 115,some 116,some 117,some 118,some 119,some 120,some 121,some 122,some 123,some 124,some 125,some 126,some 127,some 128,some 129,some 130,some 131,some 132,some 133,some 134,some 135,some 136,some 137,some 138,some 139,some 140,some 141,some 142,some 143,some 144,some 106,some 145,some 146,none] (fun i_ vs_ v_ p_=>match i_ with|0=>v_=.agg #[jI q.o.ins,q.o.sv,q.o.av,q.o.ov]∧p_=[]|1=>v_=q.tr.v∧p_=[]|2=>v_=.pointer (some ⟨b1,0+2,none⟩)∧p_=[]|3=>v_=n.av∧p_=[]|4=>v_=jI (i:Int)∧p_=[]|5=>v_=elP n.av ((i:Int).toNat*2)∧p_=[]|6=>v_=elP n.av ((i:Int).toNat*2+0)∧p_=[]|7=>v_=jI ((n.gs.getD i an0).a)∧p_=[]|8=>v_=jI (((n.gs.getD i an0).a) / 2)∧p_=[]|9=>v_=elP q.tr.v ((((n.gs.getD i an0).a) / 2).toNat*1)∧p_=[]|10=>v_=jI (q.tr.xs.getD ((((n.gs.getD i an0).a) / 2).toNat) 0)∧p_=[]|11=>v_=.pointer (some ⟨b1,0+2,none⟩)∧p_=[]|12=>v_=n.av∧p_=[]|13=>v_=jI (i:Int)∧p_=[]|14=>v_=elP n.av ((i:Int).toNat*2)∧p_=[]|15=>v_=elP n.av ((i:Int).toNat*2+0)∧p_=[]|16=>v_=jI ((n.gs.getD i an0).a)∧p_=[]|17=>v_=jI (((n.gs.getD i an0).a) % 2)∧p_=[]|18=>v_=jI (mpL q.tr.xs ((n.gs.getD i an0).a))∧p_=[]|19=>v_=q.tr.v∧p_=[]|20=>v_=.pointer (some ⟨b1,0+2,none⟩)∧p_=[]|21=>v_=n.av∧p_=[]|22=>v_=jI (i:Int)∧p_=[]|23=>v_=elP n.av ((i:Int).toNat*2)∧p_=[]|24=>v_=elP n.av ((i:Int).toNat*2+1)∧p_=[]|25=>v_=jI ((n.gs.getD i an0).b)∧p_=[]|26=>v_=jI (((n.gs.getD i an0).b) / 2)∧p_=[]|27=>v_=elP q.tr.v ((((n.gs.getD i an0).b) / 2).toNat*1)∧p_=[]|28=>v_=jI (q.tr.xs.getD ((((n.gs.getD i an0).b) / 2).toNat) 0)∧p_=[]|29=>v_=.pointer (some ⟨b1,0+2,none⟩)∧p_=[]|30=>v_=n.av∧p_=[]|31=>v_=jI (i:Int)∧p_=[]|32=>v_=elP n.av ((i:Int).toNat*2)∧p_=[]|33=>v_=elP n.av ((i:Int).toNat*2+1)∧p_=[]|34=>v_=jI ((n.gs.getD i an0).b)∧p_=[]|35=>v_=jI (((n.gs.getD i an0).b) % 2)∧p_=[]|36=>v_=jI (mpL q.tr.xs ((n.gs.getD i an0).b))∧p_=[]|37=>(fun u_ p_=>∃(ps:List HP) (m:Nt) (z:Int),u_=.tuple #[m.agg,jI z]∧p_=[rS9 46 3 m.sv m.ss sqC,bigE ps]∧(∀w,(bigE ps).holds w→NtRest w m)∧(m.sv.oneCell'=true∧m.av.oneCell'=true∧m.ov.oneCell'=true)∧CpS q.o m∧OpS q.o m (andO q.o.fst q.o.gs (mpL q.tr.xs ((n.gs.getD i an0).a)) (mpL q.tr.xs ((n.gs.getD i an0).b))) z) v_ p_|38=>v_=.tuple #[.agg #[jI (intOf_o (ag9 0 (tp9 0 (gV9 vs_ 0)))),(ag9 1 (tp9 0 (gV9 vs_ 0))),(ag9 2 (tp9 0 (gV9 vs_ 0))),(ag9 3 (tp9 0 (gV9 vs_ 0)))],jI (intOf_o (tp9 1 (gV9 vs_ 0)))]∧p_=[]|39=>v_=.agg #[jI (intOf_o (ag9 0 (tp9 0 (gV9 vs_ 0)))),(ag9 1 (tp9 0 (gV9 vs_ 0))),(ag9 2 (tp9 0 (gV9 vs_ 0))),(ag9 3 (tp9 0 (gV9 vs_ 0)))]∧p_=[]|40=>v_=jI (intOf_o (tp9 1 (gV9 vs_ 0)))∧p_=[]|41=>p_=[boxE b71 #[jI (intOf_o (ag9 0 (tp9 0 (gV9 vs_ 0)))),(ag9 1 (tp9 0 (gV9 vs_ 0))),(ag9 2 (tp9 0 (gV9 vs_ 0))),(ag9 3 (tp9 0 (gV9 vs_ 0)))] 28]|_=>True) [[],[],[],[2],[],[3,4],[5],[6],[7],[1,8],[9],[],[11],[],[12,13],[14],[15],[16],[10,17],[],[],[20],[],[21,22],[23],[24],[25],[19,26],[27],[],[29],[],[30,31],[32],[33],[34],[28,35],[0,18,36],[37],[37,38],[37,38],[37,39]] [none,none,none,none,none,none,none,none,none,none,none,none,none,none,none,none,none,none,none,none,none,none,none,none,none,none,none,none,none,none,none,none,none,none,none,none,none,none,none,none,none,some 43] [[nB9 b71 q.o]] [0,1,2,3,4,5,6,7,8,9,10,11,12,13,14,15,16,17,18,19,20,21,22,23,24,25,26,27,28,29,30,31,32,33,34,35,36,37,38,39,40,41] 43 (List.take_append_drop 42 _).symm (by kernel_rfl) (by kernel_rfl) (by kernel_rfl) A A ?_ ?_
 refine⟨?_,?_,?_,?_,?_,?_,?_,?_,?_,?_,?_,?_,?_,?_,?_,?_,?_,?_,?_,?_,?_,?_,?_,?_,?_,?_,?_,?_,?_,?_,?_,?_,?_,?_,?_,?_,?_,?_,?_,?_,?_,?_,trivial⟩
 intro vf pf hmu hR
 refine bL [] [] A (aW (aI [12] A) (List.sublist_append_right _ _) ?_)
 exact aT (aF (cs:=[jI q.o.ins,q.o.sv,q.o.av,q.o.ov]) A A A A A (aD 0 A 0 A))
 intro vf pf hmu hR
 refine bL [] [] A (bH (aI [13] A) ?_)
 exact aT (aK A)
 intro vf pf hmu hR
 refine bL [] [] A (bH (aI [3] A) ?_)
 exact aT (cQ 2 A A A)
 intro vf pf hmu hR
 have e2:=hR 2 (by decide)
 refine bL [2] [2] A (aW (sk 109 (congrArg some e2.1) (aB _)) (List.sublist_append_right _ _) ?_)
 exact aT (aN A A A (aH 7 A A))
 intro vf pf hmu hR
 refine bL [] [] A (bH (aI [14] A) ?_)
 exact aT (aK A)
 intro vf pf hmu hR
 have e3:=hR 3 (by decide)
 have e4:=hR 4 (by decide)
 refine bL [3,4] [3,4] A (aW (sk 110 (congrArg some e3.1) (sk 111 (congrArg some e4.1) (aB _))) (List.sublist_append_right _ _) ?_)
 exact aT (dF 2 A A A A (aE hr.an))
 intro vf pf hmu hR
 have e5:=hR 5 (by decide)
 refine bL [5] [5] A (aW (sk 112 (congrArg some e5.1) (aB _)) (List.sublist_append_right _ _) ?_)
 exact aT (cC (k0:=0) A A A (aE hr.an) (by omega))
 intro vf pf hmu hR
 have e6:=hR 6 (by decide)
 refine bL [6] [6] A (aW (sk 113 (congrArg some e6.1) (aB _)) (List.sublist_append_right _ _) ?_)
 exact aT (bG (u:=jI ((n.gs.getD i an0).a)) A A A (aE hr.an) ((dE anC 2 (fun _=>A) n.gs an0 (show i<_ by omega) (by decide)).trans A))
 intro vf pf hmu hR
 have e7:=hR 7 (by decide)
 refine bL [7] [7] A (bH (sk 114 (congrArg some e7.1) (aB _)) ?_)
 exact aT (fF A A A (by refine⟨?_,?_,?_⟩<;>omega))
 intro vf pf hmu hR
 have e1:=hR 1 (by decide)
 have e8:=hR 8 (by decide)
 refine bL [1,8] [1,8] A (aW (sk 108 (congrArg some e1.1) (sk 115 (congrArg some e8.1) (aB _))) (List.sublist_append_right _ _) ?_)
 exact aT (dF 1 A A A A (aG 2 A))
 intro vf pf hmu hR
 have e9:=hR 9 (by decide)
 refine bL [9] [9] A (aW (sk 116 (congrArg some e9.1) (aB _)) (List.sublist_append_right _ _) ?_)
 exact aT (rR A A A (aG 2 A))
 intro vf pf hmu hR
 refine bL [] [] A (bH (aI [3] A) ?_)
 exact aT (cQ 2 A A A)
 intro vf pf hmu hR
 have e11:=hR 11 (by decide)
 refine bL [11] [11] A (aW (sk 118 (congrArg some e11.1) (aB _)) (List.sublist_append_right _ _) ?_)
 exact aT (aN A A A (aH 7 A A))
 intro vf pf hmu hR
 refine bL [] [] A (bH (aI [14] A) ?_)
 exact aT (aK A)
 intro vf pf hmu hR
 have e12:=hR 12 (by decide)
 have e13:=hR 13 (by decide)
 refine bL [12,13] [12,13] A (aW (sk 119 (congrArg some e12.1) (sk 120 (congrArg some e13.1) (aB _))) (List.sublist_append_right _ _) ?_)
 exact aT (dF 2 A A A A (aE hr.an))
 intro vf pf hmu hR
 have e14:=hR 14 (by decide)
 refine bL [14] [14] A (aW (sk 121 (congrArg some e14.1) (aB _)) (List.sublist_append_right _ _) ?_)
 exact aT (cC (k0:=0) A A A (aE hr.an) (by omega))
 intro vf pf hmu hR
 have e15:=hR 15 (by decide)
 refine bL [15] [15] A (aW (sk 122 (congrArg some e15.1) (aB _)) (List.sublist_append_right _ _) ?_)
 exact aT (bG (u:=jI ((n.gs.getD i an0).a)) A A A (aE hr.an) ((dE anC 2 (fun _=>A) n.gs an0 (show i<_ by omega) (by decide)).trans A))
 intro vf pf hmu hR
 have e16:=hR 16 (by decide)
 refine bL [16] [16] A (bH (sk 123 (congrArg some e16.1) (aB _)) ?_)
 exact aT (cP A (by decide) A A (r:=((n.gs.getD i an0).a) % 2) (Bit.and_one _ (by omega) (by omega)))
 intro vf pf hmu hR
 have e10:=hR 10 (by decide)
 have e17:=hR 17 (by decide)
 refine bL [10,17] [10,17] A (bH (sk 117 (congrArg some e10.1) (sk 124 (congrArg some e17.1) (aB _))) ?_)
 exact aT (cP A (by decide) A A (r:=mpL q.tr.xs ((n.gs.getD i an0).a)) (lD (by omega) (by omega)))
 intro vf pf hmu hR
 refine bL [] [] A (bH (aI [13] A) ?_)
 exact aT (aK A)
 intro vf pf hmu hR
 refine bL [] [] A (bH (aI [3] A) ?_)
 exact aT (cQ 2 A A A)
 intro vf pf hmu hR
 have e20:=hR 20 (by decide)
 refine bL [20] [20] A (aW (sk 127 (congrArg some e20.1) (aB _)) (List.sublist_append_right _ _) ?_)
 exact aT (aN A A A (aH 7 A A))
 intro vf pf hmu hR
 refine bL [] [] A (bH (aI [14] A) ?_)
 exact aT (aK A)
 intro vf pf hmu hR
 have e21:=hR 21 (by decide)
 have e22:=hR 22 (by decide)
 refine bL [21,22] [21,22] A (aW (sk 128 (congrArg some e21.1) (sk 129 (congrArg some e22.1) (aB _))) (List.sublist_append_right _ _) ?_)
 exact aT (dF 2 A A A A (aE hr.an))
 intro vf pf hmu hR
 have e23:=hR 23 (by decide)
 refine bL [23] [23] A (aW (sk 130 (congrArg some e23.1) (aB _)) (List.sublist_append_right _ _) ?_)
 exact aT (cC (k0:=1) A A A (aE hr.an) (by omega))
 intro vf pf hmu hR
 have e24:=hR 24 (by decide)
 refine bL [24] [24] A (aW (sk 131 (congrArg some e24.1) (aB _)) (List.sublist_append_right _ _) ?_)
 exact aT (bG (u:=jI ((n.gs.getD i an0).b)) A A A (aE hr.an) ((dE anC 2 (fun _=>A) n.gs an0 (show i<_ by omega) (by decide)).trans A))
 intro vf pf hmu hR
 have e25:=hR 25 (by decide)
 refine bL [25] [25] A (bH (sk 132 (congrArg some e25.1) (aB _)) ?_)
 exact aT (fF A A A (by refine⟨?_,?_,?_⟩<;>omega))
 intro vf pf hmu hR
 have e19:=hR 19 (by decide)
 have e26:=hR 26 (by decide)
 refine bL [19,26] [19,26] A (aW (sk 126 (congrArg some e19.1) (sk 133 (congrArg some e26.1) (aB _))) (List.sublist_append_right _ _) ?_)
 exact aT (dF 1 A A A A (aG 2 A))
 intro vf pf hmu hR
 have e27:=hR 27 (by decide)
 refine bL [27] [27] A (aW (sk 134 (congrArg some e27.1) (aB _)) (List.sublist_append_right _ _) ?_)
 exact aT (rR A A A (aG 2 A))
 intro vf pf hmu hR
 refine bL [] [] A (bH (aI [3] A) ?_)
 exact aT (cQ 2 A A A)
 intro vf pf hmu hR
 have e29:=hR 29 (by decide)
 refine bL [29] [29] A (aW (sk 136 (congrArg some e29.1) (aB _)) (List.sublist_append_right _ _) ?_)
 exact aT (aN A A A (aH 7 A A))
 intro vf pf hmu hR
 refine bL [] [] A (bH (aI [14] A) ?_)
 exact aT (aK A)
 intro vf pf hmu hR
 have e30:=hR 30 (by decide)
 have e31:=hR 31 (by decide)
 refine bL [30,31] [30,31] A (aW (sk 137 (congrArg some e30.1) (sk 138 (congrArg some e31.1) (aB _))) (List.sublist_append_right _ _) ?_)
 exact aT (dF 2 A A A A (aE hr.an))
 intro vf pf hmu hR
 have e32:=hR 32 (by decide)
 refine bL [32] [32] A (aW (sk 139 (congrArg some e32.1) (aB _)) (List.sublist_append_right _ _) ?_)
 exact aT (cC (k0:=1) A A A (aE hr.an) (by omega))
 intro vf pf hmu hR
 have e33:=hR 33 (by decide)
 refine bL [33] [33] A (aW (sk 140 (congrArg some e33.1) (aB _)) (List.sublist_append_right _ _) ?_)
 exact aT (bG (u:=jI ((n.gs.getD i an0).b)) A A A (aE hr.an) ((dE anC 2 (fun _=>A) n.gs an0 (show i<_ by omega) (by decide)).trans A))
 intro vf pf hmu hR
 have e34:=hR 34 (by decide)
 refine bL [34] [34] A (bH (sk 141 (congrArg some e34.1) (aB _)) ?_)
 exact aT (cP A (by decide) A A (r:=((n.gs.getD i an0).b) % 2) (Bit.and_one _ (by omega) (by omega)))
 intro vf pf hmu hR
 have e28:=hR 28 (by decide)
 have e35:=hR 35 (by decide)
 refine bL [28,35] [28,35] A (bH (sk 135 (congrArg some e28.1) (sk 142 (congrArg some e35.1) (aB _))) ?_)
 exact aT (cP A (by decide) A A (r:=mpL q.tr.xs ((n.gs.getD i an0).b)) (lD (by omega) (by omega)))
 intro vf pf hmu hR
 have e0:=hR 0 (by decide)
 have e18:=hR 18 (by decide)
 have e36:=hR 36 (by decide)
 refine bL [0,18,36] [0,18,36] A (aW (sk 107 (congrArg some e0.1) (sk 125 (congrArg some e18.1) (sk 143 (congrArg some e36.1) (aB _)))) (List.sublist_append_right _ _) ?_)
 exact aJ A A (fun w hm=>iF q.o (mpL q.tr.xs ((n.gs.getD i an0).a)) (mpL q.tr.xs ((n.gs.getD i an0).b)) w ((hps w (hm.holds _ (bX (i:=3) A))).rds (aG 1 A w hm)) ho (by first|omega|exact iW (by omega)) (by first|omega|exact iW (by omega)))
 intro vf pf hmu hR
 have e37:(fun u_ p_=>∃(ps:List HP) (m:Nt) (z:Int),u_=.tuple #[m.agg,jI z]∧p_=[rS9 46 3 m.sv m.ss sqC,bigE ps]∧(∀w,(bigE ps).holds w→NtRest w m)∧(m.sv.oneCell'=true∧m.av.oneCell'=true∧m.ov.oneCell'=true)∧CpS q.o m∧OpS q.o m (andO q.o.fst q.o.gs (mpL q.tr.xs ((n.gs.getD i an0).a)) (mpL q.tr.xs ((n.gs.getD i an0).b))) z) (vf 37) (pf 37):=hR 37 (by decide)
 obtain⟨v83,vE37⟩:∃x,vf 37=x:=⟨_,rfl⟩
 obtain⟨p84,pE37⟩:∃x,pf 37=x:=⟨_,rfl⟩
 have R85:=e37
 rw[vE37,pE37] at R85
 obtain⟨ps85,m85,z85,rfl,rfl,hpm85,⟨o1mhR85,o2mhR85,o3mhR85⟩,cpm85,hom85⟩:=R85
 have gm85:=fQ ho cpm85 hom85
 refine bL [37] [37] A (bU (sk 144 (congrArg some vE37) (aB _)) (by simp only[pE37,vE37,fS]<;>rfl) ?_)
 exact cD (aT (aK A)) (fun _ _ h=>⟨h.1.trans (by show _=(.tuple #[.agg #[jI (intOf_o (ag9 0 (tp9 0 (vf 37)))),(ag9 1 (tp9 0 (vf 37))),(ag9 2 (tp9 0 (vf 37))),(ag9 3 (tp9 0 (vf 37)))],jI (intOf_o (tp9 1 (vf 37)))]:Value);first|(rw[vE37];done)|(rw[vE37];rfl)),h.2⟩)
 intro vf pf hmu hR
 have e37:(fun u_ p_=>∃(ps:List HP) (m:Nt) (z:Int),u_=.tuple #[m.agg,jI z]∧p_=[rS9 46 3 m.sv m.ss sqC,bigE ps]∧(∀w,(bigE ps).holds w→NtRest w m)∧(m.sv.oneCell'=true∧m.av.oneCell'=true∧m.ov.oneCell'=true)∧CpS q.o m∧OpS q.o m (andO q.o.fst q.o.gs (mpL q.tr.xs ((n.gs.getD i an0).a)) (mpL q.tr.xs ((n.gs.getD i an0).b))) z) (vf 37) (pf 37):=hR 37 (by decide)
 obtain⟨v83,vE37⟩:∃x,vf 37=x:=⟨_,rfl⟩
 obtain⟨p84,pE37⟩:∃x,pf 37=x:=⟨_,rfl⟩
 have R85:=e37
 rw[vE37,pE37] at R85
 obtain⟨ps85,m85,z85,rfl,rfl,hpm85,⟨o1mhR85,o2mhR85,o3mhR85⟩,cpm85,hom85⟩:=R85
 have gm85:=fQ ho cpm85 hom85
 have e38:(vf 38)=.tuple #[.agg #[jI (intOf_o (ag9 0 (tp9 0 (vf 37)))),(ag9 1 (tp9 0 (vf 37))),(ag9 2 (tp9 0 (vf 37))),(ag9 3 (tp9 0 (vf 37)))],jI (intOf_o (tp9 1 (vf 37)))]∧(pf 38)=[]:=hR 38 (by decide)
 rw[vE37] at e38
 refine bL [37,38] [37,38] A (bU (sk 106 (congrArg some e38.1) (aB _)) (by simp only[pE37,vE37,e38.2,fS]<;>rfl) ?_)
 exact cD (aT (aK A)) (fun _ _ h=>⟨h.1.trans (by show _=(.agg #[jI (intOf_o (ag9 0 (tp9 0 (vf 37)))),(ag9 1 (tp9 0 (vf 37))),(ag9 2 (tp9 0 (vf 37))),(ag9 3 (tp9 0 (vf 37)))]:Value);first|(rw[vE37];done)|(rw[vE37];rfl)),h.2⟩)
 intro vf pf hmu hR
 have e37:(fun u_ p_=>∃(ps:List HP) (m:Nt) (z:Int),u_=.tuple #[m.agg,jI z]∧p_=[rS9 46 3 m.sv m.ss sqC,bigE ps]∧(∀w,(bigE ps).holds w→NtRest w m)∧(m.sv.oneCell'=true∧m.av.oneCell'=true∧m.ov.oneCell'=true)∧CpS q.o m∧OpS q.o m (andO q.o.fst q.o.gs (mpL q.tr.xs ((n.gs.getD i an0).a)) (mpL q.tr.xs ((n.gs.getD i an0).b))) z) (vf 37) (pf 37):=hR 37 (by decide)
 obtain⟨v83,vE37⟩:∃x,vf 37=x:=⟨_,rfl⟩
 obtain⟨p84,pE37⟩:∃x,pf 37=x:=⟨_,rfl⟩
 have R85:=e37
 rw[vE37,pE37] at R85
 obtain⟨ps85,m85,z85,rfl,rfl,hpm85,⟨o1mhR85,o2mhR85,o3mhR85⟩,cpm85,hom85⟩:=R85
 have gm85:=fQ ho cpm85 hom85
 have e38:(vf 38)=.tuple #[.agg #[jI (intOf_o (ag9 0 (tp9 0 (vf 37)))),(ag9 1 (tp9 0 (vf 37))),(ag9 2 (tp9 0 (vf 37))),(ag9 3 (tp9 0 (vf 37)))],jI (intOf_o (tp9 1 (vf 37)))]∧(pf 38)=[]:=hR 38 (by decide)
 rw[vE37] at e38
 refine bL [37,38] [37,38] A (bU (sk 106 (congrArg some e38.1) (aB _)) (by simp only[pE37,vE37,e38.2,fS]<;>rfl) ?_)
 exact cD (aT (aK A)) (fun _ _ h=>⟨h.1.trans (by show _=(jI (intOf_o (tp9 1 (vf 37))):Value);first|(rw[vE37];done)|(rw[vE37];rfl)),h.2⟩)
 intro vf pf hmu hR
 have e37:(fun u_ p_=>∃(ps:List HP) (m:Nt) (z:Int),u_=.tuple #[m.agg,jI z]∧p_=[rS9 46 3 m.sv m.ss sqC,bigE ps]∧(∀w,(bigE ps).holds w→NtRest w m)∧(m.sv.oneCell'=true∧m.av.oneCell'=true∧m.ov.oneCell'=true)∧CpS q.o m∧OpS q.o m (andO q.o.fst q.o.gs (mpL q.tr.xs ((n.gs.getD i an0).a)) (mpL q.tr.xs ((n.gs.getD i an0).b))) z) (vf 37) (pf 37):=hR 37 (by decide)
 obtain⟨v83,vE37⟩:∃x,vf 37=x:=⟨_,rfl⟩
 obtain⟨p84,pE37⟩:∃x,pf 37=x:=⟨_,rfl⟩
 have R85:=e37
 rw[vE37,pE37] at R85
 obtain⟨ps85,m85,z85,rfl,rfl,hpm85,⟨o1mhR85,o2mhR85,o3mhR85⟩,cpm85,hom85⟩:=R85
 have gm85:=fQ ho cpm85 hom85
 have e39:(vf 39)=.agg #[jI (intOf_o (ag9 0 (tp9 0 (vf 37)))),(ag9 1 (tp9 0 (vf 37))),(ag9 2 (tp9 0 (vf 37))),(ag9 3 (tp9 0 (vf 37)))]∧(pf 39)=[]:=hR 39 (by decide)
 rw[vE37] at e39
 refine Or.inl ⟨A,?_⟩
 show RunM _ _ _ (pf 43) (([37,39]:List Nat).flatMap pf++_) (envOf3 _ vf [37,39]++_) _ _
 have hmu0:pf 43=[nB9 b71 q.o]:=hmu 0 (show 0<1 by omega)
 rw[hmu0]
 exact cV (sk 15 A (sk 145 (congrArg some e39.1) (aB _))) (by simp only[pE37,vE37,e39.2,fS]<;>rfl) (fD (dR (us:=[jI m85.ins,m85.sv,m85.av,m85.ov]) (off:=0) 0 A A A A A A (aA A (aA o1mhR85 (aA o2mhR85 (aA o3mhR85 bA)))) A A) (fun v_ p_ h=>by show p_=[boxE b71 #[jI (intOf_o (ag9 0 (tp9 0 (vf 37)))),(ag9 1 (tp9 0 (vf 37))),(ag9 2 (tp9 0 (vf 37))),(ag9 3 (tp9 0 (vf 37)))] 28];rw[vE37];exact h))
 intro vf pf hmu hR
 have e37:(fun u_ p_=>∃(ps:List HP) (m:Nt) (z:Int),u_=.tuple #[m.agg,jI z]∧p_=[rS9 46 3 m.sv m.ss sqC,bigE ps]∧(∀w,(bigE ps).holds w→NtRest w m)∧(m.sv.oneCell'=true∧m.av.oneCell'=true∧m.ov.oneCell'=true)∧CpS q.o m∧OpS q.o m (andO q.o.fst q.o.gs (mpL q.tr.xs ((n.gs.getD i an0).a)) (mpL q.tr.xs ((n.gs.getD i an0).b))) z) (vf 37) (pf 37):=hR 37 (by decide)
 obtain⟨v83,vE37⟩:∃x,vf 37=x:=⟨_,rfl⟩
 obtain⟨p84,pE37⟩:∃x,pf 37=x:=⟨_,rfl⟩
 have R85:=e37
 rw[vE37,pE37] at R85
 obtain⟨ps85,m85,z85,rfl,rfl,hpm85,⟨o1mhR85,o2mhR85,o3mhR85⟩,cpm85,hom85⟩:=R85
 have gm85:=fQ ho cpm85 hom85
 have e40:(vf 40)=jI (intOf_o (tp9 1 (vf 37)))∧(pf 40)=[]:=hR 40 (by decide)
 rw[vE37] at e40
 have e41:(pf 41)=[boxE b71 #[jI (intOf_o (ag9 0 (tp9 0 (vf 37)))),(ag9 1 (tp9 0 (vf 37))),(ag9 2 (tp9 0 (vf 37))),(ag9 3 (tp9 0 (vf 37)))] 28]:=hR 41 (by decide)
 rw[vE37] at e41
 have pE41:=e41
 have q0:=hR 0 (by decide)
 have q1:=hR 1 (by decide)
 have q2:=hR 2 (by decide)
 have q3:=hR 3 (by decide)
 have q4:=hR 4 (by decide)
 have q5:=hR 5 (by decide)
 have q6:=hR 6 (by decide)
 have q7:=hR 7 (by decide)
 have q8:=hR 8 (by decide)
 have q9:=hR 9 (by decide)
 have q10:=hR 10 (by decide)
 have q11:=hR 11 (by decide)
 have q12:=hR 12 (by decide)
 have q13:=hR 13 (by decide)
 have q14:=hR 14 (by decide)
 have q15:=hR 15 (by decide)
 have q16:=hR 16 (by decide)
 have q17:=hR 17 (by decide)
 have q18:=hR 18 (by decide)
 have q19:=hR 19 (by decide)
 have q20:=hR 20 (by decide)
 have q21:=hR 21 (by decide)
 have q22:=hR 22 (by decide)
 have q23:=hR 23 (by decide)
 have q24:=hR 24 (by decide)
 have q25:=hR 25 (by decide)
 have q26:=hR 26 (by decide)
 have q27:=hR 27 (by decide)
 have q28:=hR 28 (by decide)
 have q29:=hR 29 (by decide)
 have q30:=hR 30 (by decide)
 have q31:=hR 31 (by decide)
 have q32:=hR 32 (by decide)
 have q33:=hR 33 (by decide)
 have q34:=hR 34 (by decide)
 have q35:=hR 35 (by decide)
 have q36:=hR 36 (by decide)
 have q38:=hR 38 (by decide)
 have q39:=hR 39 (by decide)
 have q40:=hR 40 (by decide)
 refine cE (bO [75,66,34,16,15,14,13,12,11,10,9,8,7,6,3,2,1,0] _ (sk 146 (congrArg some e40.1) (aB _)) A) (by simp only[pE37,vE37,pE41,q0.2,q1.2,q2.2,q3.2,q4.2,q5.2,q6.2,q7.2,q8.2,q9.2,q10.2,q11.2,q12.2,q13.2,q14.2,q15.2,q16.2,q17.2,q18.2,q19.2,q20.2,q21.2,q22.2,q23.2,q24.2,q25.2,q26.2,q27.2,q28.2,q29.2,q30.2,q31.2,q32.2,q33.2,q34.2,q35.2,q36.2,q38.2,q39.2,q40.2,fS]<;>rfl) ?_
 simp only[List.drop_succ_cons,List.drop_zero]
 refine dJ 1 A ?_
 refine aZ 11 [10,9,8,7,1,5,0,3,2] A A (by decide) ?_
 exact gC m85 ps85 z85 ⟨gm85.gr.ok,hsk.trans gm85.gr.cp.skel,gm85.gr.cnt,gm85.ln,hpm85,⟨o1mhR85,o2mhR85,o3mhR85⟩⟩ (cT A) (dS A)
 intro m9 ps9 x9 hm86
 obtain⟨hm9,hsk9,hle9,hx9,hps9,⟨o1p,o2p,o3p⟩⟩:=hm86
 have hcm9:=eX hm9
 refine aC (aC (bZ 1 A ?_))
 refine bQ A A A A A A (fun h87=>?_) (fun h87=>?_)
 refine bR (aR A (cF (aP A (aF (cs:=[jI n.ins,n.sv,n.av,n.ov]) A A A A A (aD 8 A 0 A)) ?_)))
 refine eB A A A (aJ A A (fun w hm=>fA n w (hr.below hm.bel) hn)) ?_
 intro v88 p89 R90
 obtain⟨pqc,mc,rfl,rfl,hpqc,⟨o1mc,o3mc⟩,hcpmc⟩:=R90
 refine iA (fun w hm=>(aG 1 A w hm).one) (fun o2mc=>?_)
 refine bI (cs':=#[jI mc.ins,mc.sv,mc.av,mc.ov]) (i:=10) (off:=0) (us:=[jI mc.ins,mc.sv,mc.av,mc.ov]) A A A A A A A (aA A (aA o1mc (aA o2mc (aA o3mc bA)))) A A A (aU 1 A ?_)
 refine aV (aL ?_)
 refine aQ (fL ?_)
 refine aQ (aL ?_)
 refine aZ 12 [10,2,1,0] A A (by decide) ?_
 refine cB 3 A ?_
 exact bV (rs:=[.cell 6 28,.tmp 7]) (vs:=[.agg #[jI mc.ins,mc.sv,mc.av,mc.ov],.bool false]) (post:=[bigE [rS9 46 3 mc.sv mc.ss sqC,rS9 67 2 mc.av mc.gs anC,bigE pqc]]) A ⟨⟨b2,0,[jI mc.ins,mc.sv,mc.av,mc.ov],A,A,by kernel_rfl,by kernel_rfl,aD 1 A 0 A⟩,A,trivial⟩ A (eJ [0] A) ⟨_,mc,_,A,A,fun w hw=>⟨bT (aX hw cL),(hpqc w (aX hw (dK (dK cL)))).1,bT (aX hw (dK cL)),(hpqc w (aX hw (dK (dK cL)))).2⟩,⟨o1mc,o2mc,o3mc⟩,(hcpmc.grw hn).ok⟩
 refine bR (aS A (bY (cF (aP A (aF (cs:=[jI m9.ins,m9.sv,m9.av,m9.ov]) A A A A A (aD 0 A 0 A)) ?_))))
 refine bI (cs':=#[jI m9.ins,m9.sv,m9.av,m9.ov]) (i:=1) (off:=0) (us:=[jI m9.ins,m9.sv,m9.av,m9.ov]) A A A A A A A (aA A (aA o1p (aA o2p (aA o3p bA)))) A A A (bR (bZ 2 A ?_))
 refine dP A (bB (z:=jI 0) (s:=1) (cs:=(mI [x9])) A Tryz.underlying26 A (by decide) A (by kernel_rfl) A) ?_
 intro g91
 refine cW (i:=4) (z:=jI 0) (bytes:=8) A A A A Tryz.underlying26 (by kernel_rfl) A A A A (aG 0 A) (cO _) (by first|omega|(simp;done)|(simp;omega)) (cH q.tr.xs ([x9])) (dL q.tr.xs ([x9])) (fun _=>A) ?_
 intro v92
 refine dJ 1 A (cK (bZ 1 A (aP A (dM A A A) (dJ 1 A ?_))))
 have hmk2:MapOk (q.tr.xs++[x9]) (n.fst+((i+1:Nat):Int)) m9.cnt:=by have h9:=(hmk.up hle9).app (x:=x9) ⟨by omega,hx9⟩;rwa [show n.fst+(i:Int)+1=n.fst+((i+1:Nat):Int) by omega] at h9
 exact cG (i+1) ⟨m9,CRow.mk v92 (q.tr.xs++([x9])),ps9⟩ ⟨by omega,hm9,hsk9,hmk2,hps9,⟨o1p,o2p,o3p⟩⟩ (by omega) (cT A) (eJ [2,0,0,0,0,0,0,0] A)
 refine bR (aS A ?_)
 refine bM (dI ?_)
 refine aO (bF (cF ?_))
 refine iR 8 [7,6,5,4,0,3,2,1] A A (by decide) ?_
 refine pV 3 A ?_
 refine aP A (aF (cs:=[jI q.o.ins,q.o.sv,q.o.av,q.o.ov]) A A A A A (aD 1 A 0 A)) (aP A (aF (cs:=[jI n.ins,n.sv,n.av,n.ov]) A A A A A (aD 5 A 0 A)) (aM 1 A ?_))
 refine eH (R:=(fun u_ p_=>∃(ps:List HP) (m:Nt),u_=m.agg∧p_=bigE ps∧(∀w,(bigE ps).holds w→RdsNt w m)∧(m.sv.oneCell'=true∧m.av.oneCell'=true∧m.ov.oneCell'=true)∧NtOk m∧Skel n m∧m.gs.length≤q.o.gs.length)) 0 A A A A A (fun l' w hm=>kC n q.o q.tr.xs q.tr.v q.ps _ _ w hm hr hn ho hsk (by rwa [show n.fst+(i:Int)=n.cnt by omega] at hmk) hps ⟨o1o,o2o,o3o⟩) ?_
 intro v93 p94 R95
 obtain⟨rs,m3,rfl,rfl,hrs,⟨o1r,o2r,o3r⟩,hm3,hs3,hl3⟩:=R95
 refine eC (l':=[bigE rs,nB9 b68 q.o,rS9 127 2 cvv cx anC,boxE b15 #[jI (cut.length:Int),jI tb] 111,eB9 b2,nB9 b1 n]) A ?_
 refine bI (cs':=#[jI m3.ins,m3.sv,m3.av,m3.ov]) (i:=4) (off:=0) (us:=[jI m3.ins,m3.sv,m3.av,m3.ov]) A A A A A A A (aA A (aA o1r (aA o2r (aA o3r bA)))) A A A (aU 1 A ?_)
 exact aV (bV (rs:=[.cell 6 28,.tmp 7]) (vs:=[.agg #[jI m3.ins,m3.sv,m3.av,m3.ov],.bool true]) (post:=[bigE rs]) A ⟨⟨b2,0,[jI m3.ins,m3.sv,m3.av,m3.ov],A,A,by kernel_rfl,by kernel_rfl,aD 4 A 0 A⟩,A,trivial⟩ A (eJ [0] A) ⟨_,m3,_,A,A,hrs,⟨o1r,o2r,o3r⟩,hm3⟩)
 refine aU 12 A (aR A (cF (aP A (aF (cs:=[jI n.ins,n.sv,n.av,n.ov]) A A A A A (aD 1 A 0 A)) ?_)))
 refine eB A A A (aJ A A (fun w hm=>fA n w (hr.below hm.bel) hn)) ?_
 intro v96 p97 R98
 obtain⟨pqc,mc,rfl,rfl,hpqc,⟨o1mc,o3mc⟩,hcpmc⟩:=R98
 refine iA (fun w hm=>(aG 1 A w hm).one) (fun o2mc=>?_)
 refine bI (cs':=#[jI mc.ins,mc.sv,mc.av,mc.ov]) (i:=3) (off:=0) (us:=[jI mc.ins,mc.sv,mc.av,mc.ov]) A A A A A A A (aA A (aA o1mc (aA o2mc (aA o3mc bA)))) A A A (aU 1 A ?_)
 refine aV (aL ?_)
 refine aZ 5 [3,2,1,0] A A (by decide) ?_
 refine cB 3 A ?_
 exact bV (rs:=[.cell 6 28,.tmp 7]) (vs:=[.agg #[jI mc.ins,mc.sv,mc.av,mc.ov],.bool false]) (post:=[bigE [rS9 46 3 mc.sv mc.ss sqC,rS9 67 2 mc.av mc.gs anC,bigE pqc]]) A ⟨⟨b2,0,[jI mc.ins,mc.sv,mc.av,mc.ov],A,A,by kernel_rfl,by kernel_rfl,aD 1 A 0 A⟩,A,trivial⟩ A (eJ [0] A) ⟨_,mc,_,A,A,fun w hw=>⟨bT (aX hw cL),(hpqc w (aX hw (dK (dK cL)))).1,bT (aX hw (dK cL)),(hpqc w (aX hw (dK (dK cL)))).2⟩,⟨o1mc,o2mc,o3mc⟩,(hcpmc.grw hn).ok⟩
theorem vC (n:Nt) (w:World) (hr:RdsNt w n) (hn:NtOk n) :
   Calls Tryz.prog 35 #[.agg #[.int .i64 n.ins,n.sv,n.av,n.ov]] w (Ret w (fun u_ p_=>∃(ps:List HP) (m:Nt),u_=m.agg∧p_=[bigE ps]∧(∀w,(bigE ps).holds w→RdsNt w m)∧(m.sv.oneCell'=true∧m.av.oneCell'=true∧m.ov.oneCell'=true)∧NtOk m)):=by
 have hi0:=hn.i0
 have hi1:=hn.i1
 have hs1:=hn.s1
 have ha1:=hn.a1
 have ho1:=hn.o1
 have hcnt:n.cnt=1+n.ins+n.ss.length+n.gs.length:=rfl
 have hfst:n.fst=1+n.ins+n.ss.length:=rfl
 refine bN (N:=65) (args:=[.agg #[jI n.ins,n.sv,n.av,n.ov]]) Tryz.func35 A A (cF ?_)
 refine cR A (cN A A) ?_
 intro b1
 refine cR A (bP (z:=.agg #[jI 0,.slice none 0 0,.slice none 0 0,.slice none 0 0]) A A) ?_
 intro b2
 refine bR (eP (aP A (aF (cs:=[jI n.ins,n.sv,n.av,n.ov]) A A A A A (aD 1 A 0 A)) ?_))
 refine dA A (aJ A A (fun w hm=>aY (eA n w (hr.below hm.bel) hn))) (aU 1 A (aS A (bY (cF (aP A (aF (cs:=[jI n.ins,n.sv,n.av,n.ov]) A A A A A (aD 1 A 0 A)) ?_)))))
 refine eB A A A (aJ A A (fun w hm=>xK n w (hr.below hm.bel) hn)) ?_
 intro v3 p4 R5
 obtain⟨ph,m,rfl,rfl,hph,⟨o1m,o2m,o3m⟩,hmo,hms,hml⟩:=R5
 have hma1:=hmo.a1
 refine cR A (bP (z:=.agg #[jI 0,.slice none 0 0,.slice none 0 0,.slice none 0 0]) A A) ?_
 intro b6
 refine bI (cs':=#[jI m.ins,m.sv,m.av,m.ov]) (i:=0) (off:=0) (us:=[jI m.ins,m.sv,m.av,m.ov]) A A A A A A A (aA A (aA o1m (aA o2m (aA o3m bA)))) A A A (bR (eP (aP A (cQ 2 A A A) (aP A (aN A A A (aH 0 A A)) ?_))))
 refine aP A (bC A Tryz.underlying25 A (fun w hm=>(hph w (hm.holds _ (bX (i:=1) A))).an)) (fJ A A A A A A (fun h7=>?_) (fun h7=>?_))
 refine bR (aR A (cF (aP A (aF (cs:=[jI m.ins,m.sv,m.av,m.ov]) A A A A A (aD 0 A 0 A)) ?_)))
 refine bI (cs':=#[jI m.ins,m.sv,m.av,m.ov]) (i:=2) (off:=0) (us:=[jI m.ins,m.sv,m.av,m.ov]) A A A A A A A (aA A (aA o1m (aA o2m (aA o3m bA)))) A A A (bR ?_)
 refine aV (aL ?_)
 exact bV (rs:=[.cell 2 28]) (vs:=[.agg #[jI m.ins,m.sv,m.av,m.ov]]) (post:=[bigE ph]) A ⟨⟨b2,0,[jI m.ins,m.sv,m.av,m.ov],A,A,by kernel_rfl,by kernel_rfl,aD 2 A 0 A⟩,trivial⟩ A (eJ [1] A) ⟨_,m,A,A,hph,⟨o1m,o2m,o3m⟩,hmo⟩
 refine bR (aS A (bY (aC (bD 1 A (bE ?_)))))
 refine iC (α:=Nat) (β:=Nt) (γ:=List HP) [0,1,2,3,11,18] A (fun i nh pn_=>[nB9 b6 nh,bigE pn_,eB9 b2,nB9 b1 n]) (fun i nh pn_=>[(4,jI (i:Int))]) (fun i nh pn_=>NtOk nh∧(∀w,(bigE pn_).holds w→RdsNt w nh)∧(nh.sv.oneCell'=true∧nh.av.oneCell'=true∧nh.ov.oneCell'=true)) (fun i nh pn_=>400-i) 0 m ph ⟨hmo,hph,⟨o1m,o2m,o3m⟩⟩ (cT A) (dS A) ?_
 intro i nh pn_ hi8
 obtain⟨hno,hpn,⟨o1o,o2o,o3o⟩⟩:=hi8
 have hna1:=hno.a1
 have hni0:=hno.i0
 have hcn:=eX hno
 have hfn:nh.fst=1+nh.ins+nh.ss.length:=rfl
 have hcf:=gI nh
 refine aC (aC (bZ 1 A (aP A (cQ 2 A A A) (aP A (aN A A A (aH 0 A A)) ?_))))
 refine aP A (bC A Tryz.underlying25 A (fun w hm=>(hpn w (hm.holds _ (bX (i:=1) A))).an)) (bQ A A A A A A (fun h9=>?_) (fun h9=>?_))
 refine bR (aR A (bY (fM (aC ?_))))
 refine eV A 6 [0,1,2,3,4,5] (List.take 6 _) (List.drop 6 _) [[],[],[1],[],[2,3],[0,4]] [27,28,29,30,31,32] (fun i_ vs_ v_ p_=>match i_ with|0=>v_=.agg #[jI nh.ins,nh.sv,nh.av,nh.ov]∧p_=[]|1=>v_=.agg #[jI nh.ins,nh.sv,nh.av,nh.ov]∧p_=[]|2=>v_=jI nh.fst∧p_=[]|3=>v_=jI (i:Int)∧p_=[]|4=>v_=jI (nh.fst+(i:Int))∧p_=[]|5=>(fun u_ p_=>∃(ps:List HP) (us:List CRow),p_=[bigE ps]∧(∀w,(bigE ps).holds w→RdsCl w u_ us)∧GrpOk us) v_ p_|_=>True) (List.take_append_drop 6 _).symm (by kernel_rfl) (by kernel_rfl) A A ?_ ?_
 refine⟨?_,?_,?_,?_,?_,?_,trivial⟩
 intro vf pf hR
 exact eZ A (aI [3] A) (aT (aF (cs:=[jI nh.ins,nh.sv,nh.av,nh.ov]) A A A A A (aD 0 A 0 A)))
 intro vf pf hR
 exact eZ A (aI [3] A) (aT (aF (cs:=[jI nh.ins,nh.sv,nh.av,nh.ov]) A A A A A (aD 0 A 0 A)))
 intro vf pf hR
 have e1:=hR 1 (by decide)
 exact eZ A (sk 28 (congrArg some e1.1) (aB _)) (aJ A A (fun w hm=>aY (dD nh w (hpn w (hm.holds _ (bX (i:=1) A))) hno)))
 intro vf pf hR
 exact fX A (aI [4] A) (aT (aK A))
 intro vf pf hR
 have e2:=hR 2 (by decide)
 have e3:=hR 3 (by decide)
 exact fX A (sk 29 (congrArg some e2.1) (sk 30 (congrArg some e3.1) (aB _))) (aT (dM A A A))
 intro vf pf hR
 have e0:=hR 0 (by decide)
 have e4:=hR 4 (by decide)
 exact eZ A (sk 27 (congrArg some e0.1) (sk 31 (congrArg some e4.1) (aB _))) (aJ A A (fun w hm=>Ch nh (nh.fst+(i:Int)) w (hpn w (hm.holds _ (bX (i:=1) A))) hno (by omega)))
 intro vf pf hR
 have e5:(fun u_ p_=>∃(ps:List HP) (us:List CRow),p_=[bigE ps]∧(∀w,(bigE ps).holds w→RdsCl w u_ us)∧GrpOk us) (vf 5) (pf 5):=hR 5 (by decide)
 obtain⟨v10,vE5⟩:∃x,vf 5=x:=⟨_,rfl⟩
 obtain⟨p11,pE5⟩:∃x,pf 5=x:=⟨_,rfl⟩
 have R12:=e5
 rw[vE5,pE5] at R12
 obtain⟨pu,us,rfl,hpu,hgr⟩:=R12
 have hgl:=hgr.len
 have hgp:=hgr.pos
 have q0:=hR 0 (by decide)
 have q1:=hR 1 (by decide)
 have q2:=hR 2 (by decide)
 have q3:=hR 3 (by decide)
 have q4:=hR 4 (by decide)
 refine cE (bO [24,18,11,4,3,2,1,0] _ (sk 32 (congrArg some vE5) (aB _)) A) (by simp only[pE5,vE5,q0.2,q1.2,q2.2,q3.2,q4.2,fS]<;>rfl) ?_
 simp only[List.drop_succ_cons,List.drop_zero]
 refine aU 1 A (bD 1 A (bE ?_))
 refine hO (α:=Nat) [0,1,2,3,4,5,11,18,24] A (fun k=>[bigE pu,nB9 b6 nh,bigE pn_,eB9 b2,nB9 b1 n]) (fun k=>[(6,jI (k:Int))]) (fun k=>k≤us.length-1) (fun k=>us.length-1-k) 0 (Nat.zero_le _) (cT A) (dS A) ?_
 intro k hi13
 have hk:=hi13
 refine aC (aC (bZ 2 A ?_))
 refine aP A (bC A Tryz.underlying33 A (fun w hm=>(hpu w (hm.holds _ (bX (i:=0) A))).row)) (aP A (iM A A A) ?_)
 refine bQ A A A A A A (fun h14=>?_) (fun h14=>?_)
 refine bR (aR A (bY (fM (aC ?_))))
 have h4:=hgr.four _ (dO (es:=us) (i:=k) (d:=crow0) (by omega))
 refine eF (l:=[bigE pu,nB9 b6 nh,bigE pn_,eB9 b2,nB9 b1 n]) A 15 [0,1,2,3,4,5,6,7,8,9,10,11,12,13,14] (List.take 15 _) (List.drop 15 _) [[],[],[1],[],[2,3],[],[],[5,6],[7],[0,4,8],[9],[9,10],[9,10],[],[9,11,13]] [some 41,some 42,some 43,some 44,some 45,some 46,some 47,some 48,some 49,some 50,some 40,some 51,some 52,some 7,none] (fun i_ vs_ v_ p_=>match i_ with|0=>v_=.agg #[jI nh.ins,nh.sv,nh.av,nh.ov]∧p_=[]|1=>v_=.agg #[jI nh.ins,nh.sv,nh.av,nh.ov]∧p_=[]|2=>v_=jI nh.fst∧p_=[]|3=>v_=jI (i:Int)∧p_=[]|4=>v_=jI (nh.fst+(i:Int))∧p_=[]|5=>v_=v10∧p_=[]|6=>v_=jI (k:Int)∧p_=[]|7=>v_=elP v10 ((k:Int).toNat*1)∧p_=[]|8=>v_=(us.getD k crow0).v∧p_=[]|9=>(fun u_ p_=>∃(ps:List HP) (m:Nt) (b:Bool),u_=.tuple #[m.agg,.bool b]∧p_=[bigE ps]∧(∀w,(bigE ps).holds w→RdsNt w m)∧(m.sv.oneCell'=true∧m.av.oneCell'=true∧m.ov.oneCell'=true)∧NtOk m) v_ p_|10=>v_=.tuple #[.agg #[jI (intOf_o (ag9 0 (tp9 0 (gV9 vs_ 0)))),(ag9 1 (tp9 0 (gV9 vs_ 0))),(ag9 2 (tp9 0 (gV9 vs_ 0))),(ag9 3 (tp9 0 (gV9 vs_ 0)))],.bool (bolOf (tp9 1 (gV9 vs_ 0)))]∧p_=[]|11=>v_=.agg #[jI (intOf_o (ag9 0 (tp9 0 (gV9 vs_ 0)))),(ag9 1 (tp9 0 (gV9 vs_ 0))),(ag9 2 (tp9 0 (gV9 vs_ 0))),(ag9 3 (tp9 0 (gV9 vs_ 0)))]∧p_=[]|12=>v_=.bool (bolOf (tp9 1 (gV9 vs_ 0)))∧p_=[]|13=>IsBox #[jI 0,.slice none 0 0,.slice none 0 0,.slice none 0 0] 28 v_ p_|14=>p_=[boxE (blkOf (gV9 vs_ 2)) #[jI (intOf_o (ag9 0 (tp9 0 (gV9 vs_ 0)))),(ag9 1 (tp9 0 (gV9 vs_ 0))),(ag9 2 (tp9 0 (gV9 vs_ 0))),(ag9 3 (tp9 0 (gV9 vs_ 0)))] 28]|_=>True) [[],[],[1],[],[2,3],[],[],[5,6],[7],[0,4,8],[9],[9,10],[9,10],[],[9,11]] [none,none,none,none,none,none,none,none,none,none,none,none,none,none,some 13] [] [0,1,2,3,4,5,6,7,8,9,10,11,12,14] 16 (List.take_append_drop 15 _).symm (by kernel_rfl) (by kernel_rfl) (by kernel_rfl) A A ?_ ?_
 refine⟨?_,?_,?_,?_,?_,?_,?_,?_,?_,?_,?_,?_,?_,?_,?_,trivial⟩
 intro vf pf hmu hR
 refine bL [] [] A (aW (aI [3] A) (List.sublist_append_right _ _) ?_)
 exact aT (aF (cs:=[jI nh.ins,nh.sv,nh.av,nh.ov]) A A A A A (aD 1 A 0 A))
 intro vf pf hmu hR
 refine bL [] [] A (aW (aI [3] A) (List.sublist_append_right _ _) ?_)
 exact aT (aF (cs:=[jI nh.ins,nh.sv,nh.av,nh.ov]) A A A A A (aD 1 A 0 A))
 intro vf pf hmu hR
 have e1:=hR 1 (by decide)
 refine bL [1] [1] A (aW (sk 42 (congrArg some e1.1) (aB _)) (List.sublist_append_right _ _) ?_)
 exact(aJ A A (fun w hm=>aY (dD nh w (hpn w (hm.holds _ (bX (i:=2) A))) hno)))
 intro vf pf hmu hR
 refine bL [] [] A (bH (aI [4] A) ?_)
 exact aT (aK A)
 intro vf pf hmu hR
 have e2:=hR 2 (by decide)
 have e3:=hR 3 (by decide)
 refine bL [2,3] [2,3] A (bH (sk 43 (congrArg some e2.1) (sk 44 (congrArg some e3.1) (aB _))) ?_)
 exact aT (dM A A A)
 intro vf pf hmu hR
 refine bL [] [] A (bH (aI [5] A) ?_)
 exact aT (aK A)
 intro vf pf hmu hR
 refine bL [] [] A (bH (aI [6] A) ?_)
 exact aT (aK A)
 intro vf pf hmu hR
 have e5:=hR 5 (by decide)
 have e6:=hR 6 (by decide)
 refine bL [5,6] [5,6] A (aW (sk 46 (congrArg some e5.1) (sk 47 (congrArg some e6.1) (aB _))) (List.sublist_append_right _ _) ?_)
 exact aT (dF 1 A A A A (fun w hm=>(hpu w (hm.holds _ (bX (i:=0) A))).row))
 intro vf pf hmu hR
 have e7:=hR 7 (by decide)
 refine bL [7] [7] A (aW (sk 48 (congrArg some e7.1) (aB _)) (List.sublist_append_right _ _) ?_)
 exact aT (bG (u:=(us.getD k crow0).v) A A A (fun w hm=>(hpu w (hm.holds _ (bX (i:=0) A))).row) (dG crowC (fun r=>r.v) (fun _=>A) us crow0 (show k<_ by omega)))
 intro vf pf hmu hR
 have e0:=hR 0 (by decide)
 have e4:=hR 4 (by decide)
 have e8:=hR 8 (by decide)
 refine bL [0,4,8] [0,4,8] A (aW (sk 41 (congrArg some e0.1) (sk 45 (congrArg some e4.1) (sk 49 (congrArg some e8.1) (aB _)))) (List.sublist_append_right _ _) ?_)
 exact aJ A A (fun w hm=>xI nh (nh.fst+(i:Int)) ((us.getD k crow0).xs) _ w (hpn w (hm.holds _ (bX (i:=2) A))) hno ((fun w hm=>(hpu w (hm.holds _ (bX (i:=0) A))).at (k:=k) (by omega)) w hm) (by omega) (by omega))
 intro vf pf hmu hR
 have e9:(fun u_ p_=>∃(ps:List HP) (m:Nt) (b:Bool),u_=.tuple #[m.agg,.bool b]∧p_=[bigE ps]∧(∀w,(bigE ps).holds w→RdsNt w m)∧(m.sv.oneCell'=true∧m.av.oneCell'=true∧m.ov.oneCell'=true)∧NtOk m) (vf 9) (pf 9):=hR 9 (by decide)
 obtain⟨v15,vE9⟩:∃x,vf 9=x:=⟨_,rfl⟩
 obtain⟨p16,pE9⟩:∃x,pf 9=x:=⟨_,rfl⟩
 have R17:=e9
 rw[vE9,pE9] at R17
 obtain⟨ps17,m17,b17,rfl,rfl,hpm17,⟨o1mhR17,o2mhR17,o3mhR17⟩,okm17⟩:=R17
 have hlm17:=okm17.a1
 refine bL [9] [9] A (bU (sk 50 (congrArg some vE9) (aB _)) (by simp only[pE9,vE9,fS]<;>rfl) ?_)
 exact cD (aT (aK A)) (fun _ _ h=>⟨h.1.trans (by show _=(.tuple #[.agg #[jI (intOf_o (ag9 0 (tp9 0 (vf 9)))),(ag9 1 (tp9 0 (vf 9))),(ag9 2 (tp9 0 (vf 9))),(ag9 3 (tp9 0 (vf 9)))],.bool (bolOf (tp9 1 (vf 9)))]:Value);first|(rw[vE9];done)|(rw[vE9];rfl)),h.2⟩)
 intro vf pf hmu hR
 have e9:(fun u_ p_=>∃(ps:List HP) (m:Nt) (b:Bool),u_=.tuple #[m.agg,.bool b]∧p_=[bigE ps]∧(∀w,(bigE ps).holds w→RdsNt w m)∧(m.sv.oneCell'=true∧m.av.oneCell'=true∧m.ov.oneCell'=true)∧NtOk m) (vf 9) (pf 9):=hR 9 (by decide)
 obtain⟨v15,vE9⟩:∃x,vf 9=x:=⟨_,rfl⟩
 obtain⟨p16,pE9⟩:∃x,pf 9=x:=⟨_,rfl⟩
 have R17:=e9
 rw[vE9,pE9] at R17
 obtain⟨ps17,m17,b17,rfl,rfl,hpm17,⟨o1mhR17,o2mhR17,o3mhR17⟩,okm17⟩:=R17
 have hlm17:=okm17.a1
 have e10:(vf 10)=.tuple #[.agg #[jI (intOf_o (ag9 0 (tp9 0 (vf 9)))),(ag9 1 (tp9 0 (vf 9))),(ag9 2 (tp9 0 (vf 9))),(ag9 3 (tp9 0 (vf 9)))],.bool (bolOf (tp9 1 (vf 9)))]∧(pf 10)=[]:=hR 10 (by decide)
 rw[vE9] at e10
 refine bL [9,10] [9,10] A (bU (sk 40 (congrArg some e10.1) (aB _)) (by simp only[pE9,vE9,e10.2,fS]<;>rfl) ?_)
 exact cD (aT (aK A)) (fun _ _ h=>⟨h.1.trans (by show _=(.agg #[jI (intOf_o (ag9 0 (tp9 0 (vf 9)))),(ag9 1 (tp9 0 (vf 9))),(ag9 2 (tp9 0 (vf 9))),(ag9 3 (tp9 0 (vf 9)))]:Value);first|(rw[vE9];done)|(rw[vE9];rfl)),h.2⟩)
 intro vf pf hmu hR
 have e9:(fun u_ p_=>∃(ps:List HP) (m:Nt) (b:Bool),u_=.tuple #[m.agg,.bool b]∧p_=[bigE ps]∧(∀w,(bigE ps).holds w→RdsNt w m)∧(m.sv.oneCell'=true∧m.av.oneCell'=true∧m.ov.oneCell'=true)∧NtOk m) (vf 9) (pf 9):=hR 9 (by decide)
 obtain⟨v15,vE9⟩:∃x,vf 9=x:=⟨_,rfl⟩
 obtain⟨p16,pE9⟩:∃x,pf 9=x:=⟨_,rfl⟩
 have R17:=e9
 rw[vE9,pE9] at R17
 obtain⟨ps17,m17,b17,rfl,rfl,hpm17,⟨o1mhR17,o2mhR17,o3mhR17⟩,okm17⟩:=R17
 have hlm17:=okm17.a1
 have e10:(vf 10)=.tuple #[.agg #[jI (intOf_o (ag9 0 (tp9 0 (vf 9)))),(ag9 1 (tp9 0 (vf 9))),(ag9 2 (tp9 0 (vf 9))),(ag9 3 (tp9 0 (vf 9)))],.bool (bolOf (tp9 1 (vf 9)))]∧(pf 10)=[]:=hR 10 (by decide)
 rw[vE9] at e10
 refine bL [9,10] [9,10] A (bU (sk 40 (congrArg some e10.1) (aB _)) (by simp only[pE9,vE9,e10.2,fS]<;>rfl) ?_)
 exact cD (aT (aK A)) (fun _ _ h=>⟨h.1.trans (by show _=(.bool (bolOf (tp9 1 (vf 9))):Value);first|(rw[vE9];done)|(rw[vE9];rfl)),h.2⟩)
 intro vf pf hmu hR
 refine bL [] [] A (aW (aB _) (List.sublist_append_right _ _) ?_)
 exact bP (z:=.agg #[jI 0,.slice none 0 0,.slice none 0 0,.slice none 0 0]) A A
 intro vf pf hmu hR
 have e9:(fun u_ p_=>∃(ps:List HP) (m:Nt) (b:Bool),u_=.tuple #[m.agg,.bool b]∧p_=[bigE ps]∧(∀w,(bigE ps).holds w→RdsNt w m)∧(m.sv.oneCell'=true∧m.av.oneCell'=true∧m.ov.oneCell'=true)∧NtOk m) (vf 9) (pf 9):=hR 9 (by decide)
 obtain⟨v15,vE9⟩:∃x,vf 9=x:=⟨_,rfl⟩
 obtain⟨p16,pE9⟩:∃x,pf 9=x:=⟨_,rfl⟩
 have R17:=e9
 rw[vE9,pE9] at R17
 obtain⟨ps17,m17,b17,rfl,rfl,hpm17,⟨o1mhR17,o2mhR17,o3mhR17⟩,okm17⟩:=R17
 have hlm17:=okm17.a1
 have e11:(vf 11)=.agg #[jI (intOf_o (ag9 0 (tp9 0 (vf 9)))),(ag9 1 (tp9 0 (vf 9))),(ag9 2 (tp9 0 (vf 9))),(ag9 3 (tp9 0 (vf 9)))]∧(pf 11)=[]:=hR 11 (by decide)
 rw[vE9] at e11
 have e13:IsBox #[jI 0,.slice none 0 0,.slice none 0 0,.slice none 0 0] 28 (vf 13) (pf 13):=hR 13 (by decide)
 obtain⟨b18,vE13,pE13⟩:=e13
 refine Or.inl ⟨A,?_⟩
 show RunM _ _ _ (pf 13) (([9,11]:List Nat).flatMap pf++_) (envOf3 _ vf [9,11,13]++_) _ _
 rw[pE13]
 exact cV (sk 7 (congrArg some vE13) (sk 51 (congrArg some e11.1) (aB _))) (by simp only[pE9,vE9,e11.2,fS]<;>rfl) (fD (dR (us:=[jI m17.ins,m17.sv,m17.av,m17.ov]) (off:=0) 0 A A A A A A (aA A (aA o1mhR17 (aA o2mhR17 (aA o3mhR17 bA)))) A A) (fun v_ p_ h=>by show p_=[boxE (blkOf (vf 13)) #[jI (intOf_o (ag9 0 (tp9 0 (vf 9)))),(ag9 1 (tp9 0 (vf 9))),(ag9 2 (tp9 0 (vf 9))),(ag9 3 (tp9 0 (vf 9)))] 28];rw[vE9,vE13];exact h))
 intro vf pf hmu hR
 have e9:(fun u_ p_=>∃(ps:List HP) (m:Nt) (b:Bool),u_=.tuple #[m.agg,.bool b]∧p_=[bigE ps]∧(∀w,(bigE ps).holds w→RdsNt w m)∧(m.sv.oneCell'=true∧m.av.oneCell'=true∧m.ov.oneCell'=true)∧NtOk m) (vf 9) (pf 9):=hR 9 (by decide)
 obtain⟨v15,vE9⟩:∃x,vf 9=x:=⟨_,rfl⟩
 obtain⟨p16,pE9⟩:∃x,pf 9=x:=⟨_,rfl⟩
 have R17:=e9
 rw[vE9,pE9] at R17
 obtain⟨ps17,m17,b17,rfl,rfl,hpm17,⟨o1mhR17,o2mhR17,o3mhR17⟩,okm17⟩:=R17
 have hlm17:=okm17.a1
 have e12:(vf 12)=.bool (bolOf (tp9 1 (vf 9)))∧(pf 12)=[]:=hR 12 (by decide)
 rw[vE9] at e12
 have e13:IsBox #[jI 0,.slice none 0 0,.slice none 0 0,.slice none 0 0] 28 (vf 13) (pf 13):=hR 13 (by decide)
 obtain⟨b18,vE13,pE13⟩:=e13
 have e14:(pf 14)=[boxE (blkOf (vf 13)) #[jI (intOf_o (ag9 0 (tp9 0 (vf 9)))),(ag9 1 (tp9 0 (vf 9))),(ag9 2 (tp9 0 (vf 9))),(ag9 3 (tp9 0 (vf 9)))] 28]:=hR 14 (by decide)
 rw[vE9,vE13] at e14
 have pE14:=e14
 have q0:=hR 0 (by decide)
 have q1:=hR 1 (by decide)
 have q2:=hR 2 (by decide)
 have q3:=hR 3 (by decide)
 have q4:=hR 4 (by decide)
 have q5:=hR 5 (by decide)
 have q6:=hR 6 (by decide)
 have q7:=hR 7 (by decide)
 have q8:=hR 8 (by decide)
 have q10:=hR 10 (by decide)
 have q11:=hR 11 (by decide)
 have q12:=hR 12 (by decide)
 refine cE (bO [6,5,4,3,2,1,0] _ (sk 7 (congrArg some vE13) (bO [37,24,18,11] _ (sk 52 (congrArg some e12.1) (aB _)) A)) A) (by simp only[pE9,vE9,pE14,q0.2,q1.2,q2.2,q3.2,q4.2,q5.2,q6.2,q7.2,q8.2,q10.2,q11.2,q12.2,fS]<;>rfl) ?_
 simp only[List.drop_succ_cons,List.drop_zero]
 refine aM 1 A (bW (fun h19=>?_) (fun h19=>?_))
 refine bR (aC (bZ 2 A (aP A (cQ 2 A A A) (aP A (aN A A A (aH 1 A A)) ?_))))
 refine aP A (bC A Tryz.underlying25 A (fun w hm=>(hpm17 w (hm.holds _ (bX (i:=0) A))).an)) (aP A (cQ 2 A A A) (aP A (aN A A A (aH 3 A A)) ?_))
 refine aP A (bC A Tryz.underlying25 A (fun w hm=>(hpn w (hm.holds _ (bX (i:=4) A))).an)) (bQ A A A A A A (fun h20=>?_) (fun h20=>?_))
 refine aU 1 A (aR A (cF (aP A (aF (cs:=[jI m17.ins,m17.sv,m17.av,m17.ov]) A A A A A (aD 1 A 0 A)) ?_)))
 refine bI (cs':=#[jI m17.ins,m17.sv,m17.av,m17.ov]) (i:=3) (off:=0) (us:=[jI m17.ins,m17.sv,m17.av,m17.ov]) A A A A A A A (aA A (aA o1mhR17 (aA o2mhR17 (aA o3mhR17 bA)))) A A A (bR ?_)
 refine bM (mU A ?_)
 refine dI ?_
 refine aO (cK (bZ 1 A (aP A (dM A A A) (dJ 1 A ?_))))
 refine aZ 7 [6,5,0,3] A A (by decide) ?_
 exact cI (i+1) m17 ps17 ⟨okm17,hpm17,⟨o1mhR17,o2mhR17,o3mhR17⟩⟩ (by omega) (cT A) (dS A)
 refine aU 1 A (hH A (cK (bZ 1 A (aP A (dM A A A) (dJ 1 A ?_)))))
 exact cU (k+1) (by omega) (by omega) (cT A) (eJ [2,0,0,0,0] A)
 refine bR (aC (bZ 10 A ?_))
 refine bR (hH A (cK (bZ 1 A (aP A (dM A A A) (dJ 1 A ?_)))))
 exact cU (k+1) (by omega) (by omega) (cT A) (eJ [2,0,0,0,0] A)
 refine bR (aS A ?_)
 refine bM (dI ?_)
 refine aO (cK (bZ 1 A (aP A (dM A A A) (dJ 1 A ?_))))
 exact cI (i+1) nh pn_ ⟨hno,hpn,⟨o1o,o2o,o3o⟩⟩ (by omega) (cT A) (eJ [1,0,0,0] A)
 refine bR (aS A ?_)
 refine bM (dI ?_)
 refine aO (bF (cF (aP A (aF (cs:=[jI nh.ins,nh.sv,nh.av,nh.ov]) A A A A A (aD 0 A 0 A)) ?_)))
 refine bI (cs':=#[jI nh.ins,nh.sv,nh.av,nh.ov]) (i:=2) (off:=0) (us:=[jI nh.ins,nh.sv,nh.av,nh.ov]) A A A A A A A (aA A (aA o1o (aA o2o (aA o3o bA)))) A A A (bR ?_)
 exact aV (bV (rs:=[.cell 2 28]) (vs:=[.agg #[jI nh.ins,nh.sv,nh.av,nh.ov]]) (post:=[bigE pn_]) A ⟨⟨b2,0,[jI nh.ins,nh.sv,nh.av,nh.ov],A,A,by kernel_rfl,by kernel_rfl,aD 2 A 0 A⟩,trivial⟩ A (eJ [1] A) ⟨_,nh,A,A,hpn,⟨o1o,o2o,o3o⟩,hno⟩)
theorem tO {n:Nt}(h:NtSm n) {j:Nat}{g:An}(hg:g.a≤9223372036854775807∧g.b≤9223372036854775807):NtSm { n with gs:=n.gs.set j g }:=⟨h.s1,by dsimp only;rw[List.length_set];exact h.a1,h.o1,h.x4,h.mx,fun k hk=>by
  dsimp only at hk ⊢
  rw[List.length_set] at hk
  by_cases e:j=k
  · subst e;rw[List.getD_eq_getElem?_getD,List.getElem?_set_self hk];exact hg
  · rw[List.getD_eq_getElem?_getD,List.getElem?_set_ne e,←List.getD_eq_getElem?_getD];exact h.mg k hk,h.mo⟩
theorem tN {n:Nt}(h:NtSm n) {j:Nat}{x:Int}(hx:x≤9223372036854775807):NtSm { n with os:=n.os.set j x }:=⟨h.s1,h.a1,by dsimp only;rw[List.length_set];exact h.o1,h.x4,h.mx,h.mg,fun y hy=>by
  rcases List.mem_or_eq_of_mem_set hy with hy|rfl
  · exact h.mo y hy
  · exact hx⟩
theorem kU {n:Nt}{w:World}(h:(ntE n).holds w):RdsNt w n:=⟨(vI (aX h List.mem_cons_self)).1,(vI (aX h List.mem_cons_self)).2,bT (aX h (List.mem_cons_of_mem _ List.mem_cons_self)),bT (aX h (List.mem_cons_of_mem _ (List.mem_cons_of_mem _ List.mem_cons_self)))⟩
theorem wD (g:Nat) (a:Option Addr) (len cap:Nat) (z:List Int) (w0:World) (l:List HP) (w:World) (hm0:Mem w0 (curE g a len cap::l) w) (hb:BRow .u8 w0 a len cap z) :
   Calls Tryz.prog 14 #[.pointer (some ⟨g,0,none⟩)] w (fun e_ w_=>∃v_ p_,e_=.returned v_∧(fun u_ p_=>∃(ps:List HP) (na nb:Nt),u_=.tuple #[na.agg,nb.agg]∧p_=bigE [curE g a len cap,bigE ps]∧(∀w,(bigE ps).holds w→RdsNt w na∧RdsNt w nb)∧(na.sv.oneCell'=true∧na.av.oneCell'=true∧na.ov.oneCell'=true)∧(nb.sv.oneCell'=true∧nb.av.oneCell'=true∧nb.ov.oneCell'=true)∧NtOk na∧NtSm nb∧na.ins≤4∧(na.ss.length:Int)≤3∧(na.gs.length:Int)≤14) v_ p_∧Mem w0 (p_::l) w_):=by
 refine fW (N:=66) (args:=[pI g]) Tryz.func14 A A hm0 (cF ?_)
 refine cR A (bP (z:=.agg #[jI 0,.slice none 0 0,.slice none 0 0,.slice none 0 0]) A A) ?_
 intro b1
 refine cR A (bP (z:=.agg #[jI 0,.slice none 0 0,.slice none 0 0,.slice none 0 0]) A A) ?_
 intro b2
 refine bR (aC (bZ 1 A ?_))
 refine eH (R:=(fun u_ p_=>∃n:Nt,u_=n.agg∧p_=bigE [curE g a len cap,ntE n]∧(n.sv.oneCell'=true∧n.av.oneCell'=true∧n.ov.oneCell'=true)∧NtOk n∧n.ins≤4∧(n.ss.length:Int)≤3∧(n.gs.length:Int)≤14∧1≤n.os.length)) 2 A A A A A (fun l' w hm=>qU g a len cap z _ _ _ hm hb) ?_
 intro v3 p4 R5
 obtain⟨n,rfl,rfl,⟨o1n,o2n,o3n⟩,hn,hnq1,hnq2,hnq3,hnq4⟩:=R5
 refine eC (l':=(eB9 b2::eB9 b1::bigE [curE g a len cap,ntE n]::l)) A ?_
 refine cR A (bP (z:=.agg #[jI 0,.slice none 0 0,.slice none 0 0,.slice none 0 0]) A A) ?_
 intro b6
 refine bI (cs':=#[jI n.ins,n.sv,n.av,n.ov]) (i:=0) (off:=0) (us:=[jI n.ins,n.sv,n.av,n.ov]) A A A A A A A (aA A (aA o1n (aA o2n (aA o3n bA)))) A A A (bR (cF ?_))
 refine iR 4 [2,1,0,3] A A (by decide) ?_
 refine jE (curE g a len cap::ntE n::nB9 b6 n::eB9 b2::eB9 b1::l) gD ?_
 have hi0:=hn.i0
 have hi1:=hn.i1
 have hs1:=hn.s1
 have ha1:=hn.a1
 have ho1:=hn.o1
 have hcnt:n.cnt=1+n.ins+n.ss.length+n.gs.length:=rfl
 have hfst:n.fst=1+n.ins+n.ss.length:=rfl
 refine aP A (aF (cs:=[jI n.ins,n.sv,n.av,n.ov]) A A A A A (aD 2 A 0 A)) (eB A A A (aJ A A (fun w hm=>xM n w (tX 1 A w hm) hn)) ?_)
 intro v7 p8 R9
 obtain⟨pmb,mb,rfl,rfl,hpmb,⟨o1mb,o2mb,o3mb⟩,hokmb⟩:=R9
 refine cR A (bP (z:=.agg #[jI 0,.slice none 0 0,.slice none 0 0,.slice none 0 0]) A A) ?_
 intro b10
 refine bI (cs':=#[jI mb.ins,mb.sv,mb.av,mb.ov]) (i:=0) (off:=0) (us:=[jI mb.ins,mb.sv,mb.av,mb.ov]) A A A A A A A (aA A (aA o1mb (aA o2mb (aA o3mb bA)))) A A A (bR (aC (aC (bZ 1 A ?_))))
 refine eH (R:=(fun u_ p_=>(∃x_:Int,u_=jI x_∧0≤x_∧x_<6)∧p_=curE g a len cap)) 2 A A A A A (fun l' w hm=>dW g a len cap z 6 _ _ _ hm hb (by constructor<;>omega)) ?_
 intro v11 p12 R13
 obtain⟨⟨x13,rfl,x130,x131⟩,rfl⟩:=R13
 refine eC (l':=(nB9 b10 mb::bigE pmb::curE g a len cap::ntE n::nB9 b6 n::eB9 b2::eB9 b1::l)) A ?_
 refine bR (bE (cF ?_))
 refine cM A A A A A A (fun h14=>?_) (fun h14=>?_)
 refine aU 1 A (aR A (bJ (aP A (aF (cs:=[jI n.ins,n.sv,n.av,n.ov]) A A A A A (aD 4 A 0 A)) ?_)))
 refine eB A A A (aJ A A (fun w hm=>vC n w (tX 3 A w hm) hn)) ?_
 intro v15 p16 R17
 obtain⟨pmr,mr,rfl,rfl,hpmr,⟨o1mr,o2mr,o3mr⟩,hokmr⟩:=R17
 refine bI (cs':=#[jI mr.ins,mr.sv,mr.av,mr.ov]) (i:=1) (off:=0) (us:=[jI mr.ins,mr.sv,mr.av,mr.ov]) A A A A A A A (aA A (aA o1mr (aA o2mr (aA o3mr bA)))) A A A (dB (cK (aC ?_)))
 refine eE 8 [6,5,4,3,2,1,0,7] A A (by decide) ?_
 refine eF (l:=(bigE pmr::nB9 b10 mr::bigE pmb::curE g a len cap::ntE n::nB9 b6 n::eB9 b2::l)) A 3 [0,1,2] (List.take 3 _) (List.drop 3 _) [[],[],[0]] [some 64,some 65,none] (fun i_ vs_ v_ p_=>match i_ with|0=>v_=.agg #[jI n.ins,n.sv,n.av,n.ov]∧p_=[]|1=>v_=.agg #[jI mr.ins,mr.sv,mr.av,mr.ov]∧p_=[]|2=>p_=[nB9 b1 n]|_=>True) [[],[],[0]] [none,none,some 4] [[eB9 b1]] [0,1,2] 4 (List.take_append_drop 3 _).symm (by kernel_rfl) (by kernel_rfl) (by kernel_rfl) A A ?_ ?_
 refine⟨?_,?_,?_,trivial⟩
 intro vf pf hmu hR
 refine bL [] [] A (aW (aI [4] A) (List.sublist_append_right _ _) ?_)
 exact aT (aF (cs:=[jI n.ins,n.sv,n.av,n.ov]) A A A A A (aD 5 A 0 A))
 intro vf pf hmu hR
 refine bL [] [] A (aW (aI [5] A) (List.sublist_append_right _ _) ?_)
 exact aT (aF (cs:=[jI mr.ins,mr.sv,mr.av,mr.ov]) A A A A A (aD 1 A 0 A))
 intro vf pf hmu hR
 have e0:=hR 0 (by decide)
 refine Or.inl ⟨A,?_⟩
 show RunM _ _ _ (pf 4) (([0]:List Nat).flatMap pf++_) (envOf3 _ vf [0]++_) _ _
 have hmu0:pf 4=[eB9 b1]:=hmu 0 (show 0<1 by omega)
 rw[hmu0]
 exact cV (sk 2 A (sk 64 (congrArg some e0.1) (aB _))) (by simp only[e0.2,fS]<;>rfl) (fD (dR (us:=[jI n.ins,n.sv,n.av,n.ov]) (off:=0) 0 A A A A A A (aA A (aA o1n (aA o2n (aA o3n bA)))) A A) (fun v_ p_ h=>by show p_=[nB9 b1 n];exact h))
 intro vf pf hmu hR
 have e1:=hR 1 (by decide)
 have e2:(pf 2)=[nB9 b1 n]:=hR 2 (by decide)
 have pE2:=e2
 have q0:=hR 0 (by decide)
 have q1:=hR 1 (by decide)
 refine cE (bO [13,12,5,4,3,2,0] _ (sk 65 (congrArg some e1.1) (aB _)) A) (by simp only[pE2,q0.2,q1.2,fS]<;>rfl) ?_
 simp only[List.drop_succ_cons,List.drop_zero]
 refine bI (cs':=#[jI mr.ins,mr.sv,mr.av,mr.ov]) (i:=7) (off:=0) (us:=[jI mr.ins,mr.sv,mr.av,mr.ov]) A A A A A A A (aA A (aA o1mr (aA o2mr (aA o3mr bA)))) A A A (bR ?_)
 refine aV (aZ 8 [7,4,0,1,5] A A (by decide) ?_)
 refine cB 2 A ?_
 refine aZ 4 [3,1,0,2] A A (by decide) ?_
 refine cB 2 A ?_
 exact eG (rs:=[.cell 2 28,.cell 3 28]) (vs:=[.agg #[jI n.ins,n.sv,n.av,n.ov],.agg #[jI mr.ins,mr.sv,mr.av,mr.ov]]) A ⟨⟨b1,0,[jI n.ins,n.sv,n.av,n.ov],A,A,by kernel_rfl,by kernel_rfl,aD 1 A 0 A⟩,⟨b2,0,[jI mr.ins,mr.sv,mr.av,mr.ov],A,A,by kernel_rfl,by kernel_rfl,aD 2 A 0 A⟩,trivial⟩ A (fun w hm=>⟨_,bigE [curE g a len cap,bigE [ntE n,bigE pmr]],A,⟨_,n,mr,A,A,fun w hw=>⟨kU (aX hw cL),hpmr w (aX hw (dK cL))⟩,⟨o1n,o2n,o3n⟩,⟨o1mr,o2mr,o3mr⟩,hn,hokmr.sm,hnq1,hnq2,hnq3⟩,hm.sub (.cons_cons _ (kE 2 A))⟩)
 refine aU 1 A (aS A (cF ?_))
 refine cM A A A A A A (fun h18=>?_) (fun h18=>?_)
 refine aU 1 A (aR A (cF (aP A (aF (cs:=[jI n.ins,n.sv,n.av,n.ov]) A A A A A (aD 4 A 0 A)) ?_)))
 refine eB A A A (aJ A A (fun w hm=>kY n w (tX 3 A w hm) (by omega) (by omega) (by omega) (fun s hs=>(hn.sq s hs).len))) ?_
 intro v19 p20 R21
 obtain⟨pq,m,rfl,rfl,hpq,⟨o1m,o2m,o3m⟩,hcp⟩:=R21
 have hmk:NtOk m:=hcp.ok hn
 have hmg:m.gs.length=n.gs.length:=by rw[hcp.gs]
 have hmo:m.os.length=n.os.length:=by rw[hcp.os]
 have hmc:m.cnt=n.cnt:=hcp.cnt
 refine bI (cs':=#[jI m.ins,m.sv,m.av,m.ov]) (i:=4) (off:=0) (us:=[jI m.ins,m.sv,m.av,m.ov]) A A A A A A A (aA A (aA o1m (aA o2m (aA o3m bA)))) A A A (bR (cF (aP A (cQ 2 A A A) (aP A (aN A A A (aH 4 A A)) (aP A (bC A Tryz.underlying25 A (aG 1 A)) ?_)))))
 refine fJ A A A A A A (fun h22=>?_) (fun h22=>?_)
 refine bR (aR A (aC (bZ 1 A (aP A (cQ 2 A A A) (aP A (aN A A A (aH 4 A A)) (aP A (bC A Tryz.underlying25 A (aG 1 A)) ?_))))))
 refine eH (R:=(fun u_ p_=>(∃x_:Int,u_=jI x_∧0≤x_∧x_<(m.gs.length:Int))∧p_=curE g a len cap)) 6 A A A A A (fun l' w hm=>dW g a len cap z (m.gs.length:Int) _ _ _ hm hb (by constructor<;>omega)) ?_
 intro v23 p24 R25
 obtain⟨⟨x25,rfl,x250,x251⟩,rfl⟩:=R25
 refine eC (l':=(rS9 46 3 m.sv m.ss sqC::rS9 67 2 m.av m.gs anC::rI9 3 m.ov m.os::bigE pq::nB9 b10 m::bigE pmb::curE g a len cap::ntE n::nB9 b6 n::eB9 b2::eB9 b1::l)) A ?_
 refine aU 1 A ?_
 have hai:=hmk.an x25.toNat (by omega)
 obtain⟨hai5,hai6⟩:=iZ hai.1
 obtain⟨⟨hai1,hai2⟩,hai3,hai4⟩:=hai
 have hmf:=eX hmk
 have hmcf:m.cnt=m.fst+m.gs.length:=rfl
 refine cJ 18 [[],[0],[],[],[3],[],[4,5],[6],[7],[8],[],[10],[],[11,12],[13],[14],[9,15],[1,2]] [30,31,32,33,34,35,36,37,38,39,40,41,42,43,44,45,46,47] [.pointer (some ⟨b10,0+2,none⟩),m.av,jI x25,.pointer (some ⟨b10,0+2,none⟩),m.av,jI x25,elP m.av (x25.toNat*2),elP m.av (x25.toNat*2+0),jI ((m.gs.getD (x25.toNat) an0).a),jI (xr ((m.gs.getD (x25.toNat) an0).a)),.pointer (some ⟨b10,0+2,none⟩),m.av,jI x25,elP m.av (x25.toNat*2),elP m.av (x25.toNat*2+1),jI ((m.gs.getD (x25.toNat) an0).b),.agg #[jI (xr ((m.gs.getD (x25.toNat) an0).a)),jI ((m.gs.getD (x25.toNat) an0).b)],elP m.av (x25.toNat*2)] (by kernel_rfl) A ?_ ?_
 exact⟨bK A (cQ 2 A A A) A,bK A (aN A A A (aH 4 A A)) A,bK A (aK A) A,bK A (cQ 2 A A A) A,bK A (aN A A A (aH 4 A A)) A,bK A (aK A) A,bK A (dF 2 A A A A (aG 1 A)) A,bK A (cC (k0:=0) A A A (aG 1 A) (by omega)) A,bK A (bG (u:=jI ((m.gs.getD (x25.toNat) an0).a)) A A A (aG 1 A) ((dE anC 2 (fun _=>A) m.gs an0 (show x25.toNat<_ by omega) (by decide)).trans A)) A,bK A (cP A (by decide) A A (r:=xr ((m.gs.getD (x25.toNat) an0).a)) (iB (by omega) (by omega))) A,bK A (cQ 2 A A A) A,bK A (aN A A A (aH 4 A A)) A,bK A (aK A) A,bK A (dF 2 A A A A (aG 1 A)) A,bK A (cC (k0:=1) A A A (aG 1 A) (by omega)) A,bK A (bG (u:=jI ((m.gs.getD (x25.toNat) an0).b)) A A A (aG 1 A) ((dE anC 2 (fun _=>A) m.gs an0 (show x25.toNat<_ by omega) (by decide)).trans A)) A,bK A (dQ (cs:=#[jI (xr ((m.gs.getD (x25.toNat) an0).a)),jI ((m.gs.getD (x25.toNat) an0).b)]) A A A) A,bK A (dF 2 A A A A (aG 1 A)) A,trivial⟩
 simp only[List.drop_succ_cons,List.drop_zero]
 refine wK (i:=1) (us:=[jI (xr ((m.gs.getD (x25.toNat) an0).a)),jI ((m.gs.getD (x25.toNat) an0).b)]) (n':=(m.gs.set (x25.toNat) (An.mk (xr ((m.gs.getD (x25.toNat) an0).a)) ((m.gs.getD (x25.toNat) an0).b))).length) (xs':=((m.gs.set (x25.toNat) (An.mk (xr ((m.gs.getD (x25.toNat) an0).a)) ((m.gs.getD (x25.toNat) an0).b))).flatMap anC)) (l':=(rS9 46 3 m.sv m.ss sqC::rowE 67 2 m.av ((m.gs.set (x25.toNat) (An.mk (xr ((m.gs.getD (x25.toNat) an0).a)) ((m.gs.getD (x25.toNat) an0).b))).length) ((m.gs.set (x25.toNat) (An.mk (xr ((m.gs.getD (x25.toNat) an0).a)) ((m.gs.getD (x25.toNat) an0).b))).flatMap anC)::rI9 3 m.ov m.os::bigE pq::nB9 b10 m::bigE pmb::curE g a len cap::ntE n::nB9 b6 n::eB9 b2::eB9 b1::l)) A A A A A A (aA A (aA A bA)) A (by first|omega|(simp only[List.length_set];omega)) (by simp only[List.length_cons,List.length_nil];first|omega|(simp only[List.length_set];omega)) List.length_set.symm (Ea anC 2 (fun _=>A) _ (An.mk (xr ((m.gs.getD (x25.toNat) an0).a)) ((m.gs.getD (x25.toNat) an0).b)) (by first|omega|(simp only[List.length_set];omega))) A ?_
 refine dB (cK (aC ?_))
 refine eE 11 [9,8,7,6,5,4,3,2,1,0,10] A A (by decide) ?_
 refine eF (l:=(rS9 46 3 m.sv m.ss sqC::rowE 67 2 m.av ((m.gs.set (x25.toNat) (An.mk (xr ((m.gs.getD (x25.toNat) an0).a)) ((m.gs.getD (x25.toNat) an0).b))).length) ((m.gs.set (x25.toNat) (An.mk (xr ((m.gs.getD (x25.toNat) an0).a)) ((m.gs.getD (x25.toNat) an0).b))).flatMap anC)::rI9 3 m.ov m.os::bigE pq::nB9 b10 m::bigE pmb::curE g a len cap::ntE n::nB9 b6 n::eB9 b2::l)) A 3 [0,1,2] (List.take 3 _) (List.drop 3 _) [[],[],[0]] [some 64,some 65,none] (fun i_ vs_ v_ p_=>match i_ with|0=>v_=.agg #[jI n.ins,n.sv,n.av,n.ov]∧p_=[]|1=>v_=.agg #[jI m.ins,m.sv,m.av,m.ov]∧p_=[]|2=>p_=[nB9 b1 n]|_=>True) [[],[],[0]] [none,none,some 4] [[eB9 b1]] [0,1,2] 4 (List.take_append_drop 3 _).symm (by kernel_rfl) (by kernel_rfl) (by kernel_rfl) A A ?_ ?_
 refine⟨?_,?_,?_,trivial⟩
 intro vf pf hmu hR
 refine bL [] [] A (aW (aI [4] A) (List.sublist_append_right _ _) ?_)
 exact aT (aF (cs:=[jI n.ins,n.sv,n.av,n.ov]) A A A A A (aD 8 A 0 A))
 intro vf pf hmu hR
 refine bL [] [] A (aW (aI [5] A) (List.sublist_append_right _ _) ?_)
 exact aT (aF (cs:=[jI m.ins,m.sv,m.av,m.ov]) A A A A A (aD 4 A 0 A))
 intro vf pf hmu hR
 have e0:=hR 0 (by decide)
 refine Or.inl ⟨A,?_⟩
 show RunM _ _ _ (pf 4) (([0]:List Nat).flatMap pf++_) (envOf3 _ vf [0]++_) _ _
 have hmu0:pf 4=[eB9 b1]:=hmu 0 (show 0<1 by omega)
 rw[hmu0]
 exact cV (sk 2 A (sk 64 (congrArg some e0.1) (aB _))) (by simp only[e0.2,fS]<;>rfl) (fD (dR (us:=[jI n.ins,n.sv,n.av,n.ov]) (off:=0) 0 A A A A A A (aA A (aA o1n (aA o2n (aA o3n bA)))) A A) (fun v_ p_ h=>by show p_=[nB9 b1 n];exact h))
 intro vf pf hmu hR
 have e1:=hR 1 (by decide)
 have e2:(pf 2)=[nB9 b1 n]:=hR 2 (by decide)
 have pE2:=e2
 have q0:=hR 0 (by decide)
 have q1:=hR 1 (by decide)
 refine cE (bO [24,17,13,12,6,5,4,3,2,0] _ (sk 65 (congrArg some e1.1) (aB _)) A) (by simp only[pE2,q0.2,q1.2,fS]<;>rfl) ?_
 simp only[List.drop_succ_cons,List.drop_zero]
 refine bI (cs':=#[jI m.ins,m.sv,m.av,m.ov]) (i:=10) (off:=0) (us:=[jI m.ins,m.sv,m.av,m.ov]) A A A A A A A (aA A (aA o1m (aA o2m (aA o3m bA)))) A A A (bR ?_)
 refine aV (aZ 11 [10,7,0,4,3,2,1,8] A A (by decide) ?_)
 refine cB 5 A ?_
 refine aZ 4 [3,1,0,2] A A (by decide) ?_
 refine cB 2 A ?_
 exact eG (rs:=[.cell 2 28,.cell 3 28]) (vs:=[.agg #[jI n.ins,n.sv,n.av,n.ov],.agg #[jI m.ins,m.sv,m.av,m.ov]]) A ⟨⟨b1,0,[jI n.ins,n.sv,n.av,n.ov],A,A,by kernel_rfl,by kernel_rfl,aD 1 A 0 A⟩,⟨b2,0,[jI m.ins,m.sv,m.av,m.ov],A,A,by kernel_rfl,by kernel_rfl,aD 2 A 0 A⟩,trivial⟩ A (fun w hm=>⟨_,bigE [curE g a len cap,bigE [ntE n,rS9 46 3 m.sv m.ss sqC,rowE 67 2 m.av ((m.gs.set (x25.toNat) (An.mk (xr ((m.gs.getD (x25.toNat) an0).a)) ((m.gs.getD (x25.toNat) an0).b))).length) ((m.gs.set (x25.toNat) (An.mk (xr ((m.gs.getD (x25.toNat) an0).a)) ((m.gs.getD (x25.toNat) an0).b))).flatMap anC),rI9 3 m.ov m.os,bigE pq]],A,⟨_,n,(Nt.mk m.ins m.sv m.av m.ov m.ss (m.gs.set (x25.toNat) (An.mk (xr ((m.gs.getD (x25.toNat) an0).a)) ((m.gs.getD (x25.toNat) an0).b))) m.os),A,A,fun w hw=>⟨kU (aX hw cL),⟨bT (aX hw (dK cL)),hpq w (aX hw (dK (dK (dK (dK cL))))),bT (aX hw (dK (dK cL))),bT (aX hw (dK (dK (dK cL))))⟩⟩,⟨o1n,o2n,o3n⟩,⟨o1m,o2m,o3m⟩,hn,by first|exact hmk.sm|exact tO hmk.sm ⟨by dsimp only;omega,by dsimp only;omega⟩|exact tN hmk.sm (by omega),hnq1,hnq2,hnq3⟩,hm.sub (.cons_cons _ (kE 2 A))⟩)
 refine bR (hH A (cK (aC ?_)))
 refine eE 11 [9,8,7,6,5,4,3,2,1,0,10] A A (by decide) ?_
 refine eF (l:=(rS9 46 3 m.sv m.ss sqC::rS9 67 2 m.av m.gs anC::rI9 3 m.ov m.os::bigE pq::nB9 b10 m::bigE pmb::curE g a len cap::ntE n::nB9 b6 n::eB9 b2::l)) A 3 [0,1,2] (List.take 3 _) (List.drop 3 _) [[],[],[0]] [some 64,some 65,none] (fun i_ vs_ v_ p_=>match i_ with|0=>v_=.agg #[jI n.ins,n.sv,n.av,n.ov]∧p_=[]|1=>v_=.agg #[jI m.ins,m.sv,m.av,m.ov]∧p_=[]|2=>p_=[nB9 b1 n]|_=>True) [[],[],[0]] [none,none,some 4] [[eB9 b1]] [0,1,2] 4 (List.take_append_drop 3 _).symm (by kernel_rfl) (by kernel_rfl) (by kernel_rfl) A A ?_ ?_
 refine⟨?_,?_,?_,trivial⟩
 intro vf pf hmu hR
 refine bL [] [] A (aW (aI [4] A) (List.sublist_append_right _ _) ?_)
 exact aT (aF (cs:=[jI n.ins,n.sv,n.av,n.ov]) A A A A A (aD 8 A 0 A))
 intro vf pf hmu hR
 refine bL [] [] A (aW (aI [5] A) (List.sublist_append_right _ _) ?_)
 exact aT (aF (cs:=[jI m.ins,m.sv,m.av,m.ov]) A A A A A (aD 4 A 0 A))
 intro vf pf hmu hR
 have e0:=hR 0 (by decide)
 refine Or.inl ⟨A,?_⟩
 show RunM _ _ _ (pf 4) (([0]:List Nat).flatMap pf++_) (envOf3 _ vf [0]++_) _ _
 have hmu0:pf 4=[eB9 b1]:=hmu 0 (show 0<1 by omega)
 rw[hmu0]
 exact cV (sk 2 A (sk 64 (congrArg some e0.1) (aB _))) (by simp only[e0.2,fS]<;>rfl) (fD (dR (us:=[jI n.ins,n.sv,n.av,n.ov]) (off:=0) 0 A A A A A A (aA A (aA o1n (aA o2n (aA o3n bA)))) A A) (fun v_ p_ h=>by show p_=[nB9 b1 n];exact h))
 intro vf pf hmu hR
 have e1:=hR 1 (by decide)
 have e2:(pf 2)=[nB9 b1 n]:=hR 2 (by decide)
 have pE2:=e2
 have q0:=hR 0 (by decide)
 have q1:=hR 1 (by decide)
 refine cE (bO [24,17,13,12,5,4,3,2,0] _ (sk 65 (congrArg some e1.1) (aB _)) A) (by simp only[pE2,q0.2,q1.2,fS]<;>rfl) ?_
 simp only[List.drop_succ_cons,List.drop_zero]
 refine bI (cs':=#[jI m.ins,m.sv,m.av,m.ov]) (i:=10) (off:=0) (us:=[jI m.ins,m.sv,m.av,m.ov]) A A A A A A A (aA A (aA o1m (aA o2m (aA o3m bA)))) A A A (bR ?_)
 refine aV (aZ 11 [10,7,0,4,3,2,1,8] A A (by decide) ?_)
 refine cB 5 A ?_
 refine aZ 4 [3,1,0,2] A A (by decide) ?_
 refine cB 2 A ?_
 exact eG (rs:=[.cell 2 28,.cell 3 28]) (vs:=[.agg #[jI n.ins,n.sv,n.av,n.ov],.agg #[jI m.ins,m.sv,m.av,m.ov]]) A ⟨⟨b1,0,[jI n.ins,n.sv,n.av,n.ov],A,A,by kernel_rfl,by kernel_rfl,aD 1 A 0 A⟩,⟨b2,0,[jI m.ins,m.sv,m.av,m.ov],A,A,by kernel_rfl,by kernel_rfl,aD 2 A 0 A⟩,trivial⟩ A (fun w hm=>⟨_,bigE [curE g a len cap,bigE [ntE n,rS9 46 3 m.sv m.ss sqC,rS9 67 2 m.av m.gs anC,rI9 3 m.ov m.os,bigE pq]],A,⟨_,n,(Nt.mk m.ins m.sv m.av m.ov m.ss m.gs m.os),A,A,fun w hw=>⟨kU (aX hw cL),⟨bT (aX hw (dK cL)),hpq w (aX hw (dK (dK (dK (dK cL))))),bT (aX hw (dK (dK cL))),bT (aX hw (dK (dK (dK cL))))⟩⟩,⟨o1n,o2n,o3n⟩,⟨o1m,o2m,o3m⟩,hn,by first|exact hmk.sm|exact tO hmk.sm ⟨by dsimp only;omega,by dsimp only;omega⟩|exact tN hmk.sm (by omega),hnq1,hnq2,hnq3⟩,hm.sub (.cons_cons _ (kE 2 A))⟩)
 refine aU 1 A (aS A (cF ?_))
 refine cM A A A A A A (fun h26=>?_) (fun h26=>?_)
 refine aU 1 A (aR A (bZ 1 A ?_))
 refine eH (R:=(fun u_ p_=>∃n:Nt,u_=n.agg∧p_=bigE [curE g a len cap,ntE n]∧(n.sv.oneCell'=true∧n.av.oneCell'=true∧n.ov.oneCell'=true)∧NtSm n)) 2 A A A A A (fun l' w hm=>yP g a len cap z _ _ _ hm hb) ?_
 intro v27 p28 R29
 obtain⟨nb,rfl,rfl,⟨o1b,o2b,o3b⟩,hsm⟩:=R29
 refine eC (l':=(nB9 b10 mb::bigE pmb::bigE [curE g a len cap,ntE nb]::ntE n::nB9 b6 n::eB9 b2::eB9 b1::l)) A ?_
 refine bI (cs':=#[jI nb.ins,nb.sv,nb.av,nb.ov]) (i:=0) (off:=0) (us:=[jI nb.ins,nb.sv,nb.av,nb.ov]) A A A A A A A (aA A (aA o1b (aA o2b (aA o3b bA)))) A A A (dB (cK (aC ?_)))
 refine eE 7 [5,4,3,2,1,0,6] A A (by decide) ?_
 refine eF (l:=(nB9 b10 nb::bigE pmb::bigE [curE g a len cap,ntE nb]::ntE n::nB9 b6 n::eB9 b2::l)) A 3 [0,1,2] (List.take 3 _) (List.drop 3 _) [[],[],[0]] [some 64,some 65,none] (fun i_ vs_ v_ p_=>match i_ with|0=>v_=.agg #[jI n.ins,n.sv,n.av,n.ov]∧p_=[]|1=>v_=.agg #[jI nb.ins,nb.sv,nb.av,nb.ov]∧p_=[]|2=>p_=[nB9 b1 n]|_=>True) [[],[],[0]] [none,none,some 4] [[eB9 b1]] [0,1,2] 4 (List.take_append_drop 3 _).symm (by kernel_rfl) (by kernel_rfl) (by kernel_rfl) A A ?_ ?_
 refine⟨?_,?_,?_,trivial⟩
 intro vf pf hmu hR
 refine bL [] [] A (aW (aI [4] A) (List.sublist_append_right _ _) ?_)
 exact aT (aF (cs:=[jI n.ins,n.sv,n.av,n.ov]) A A A A A (aD 4 A 0 A))
 intro vf pf hmu hR
 refine bL [] [] A (aW (aI [5] A) (List.sublist_append_right _ _) ?_)
 exact aT (aF (cs:=[jI nb.ins,nb.sv,nb.av,nb.ov]) A A A A A (aD 0 A 0 A))
 intro vf pf hmu hR
 have e0:=hR 0 (by decide)
 refine Or.inl ⟨A,?_⟩
 show RunM _ _ _ (pf 4) (([0]:List Nat).flatMap pf++_) (envOf3 _ vf [0]++_) _ _
 have hmu0:pf 4=[eB9 b1]:=hmu 0 (show 0<1 by omega)
 rw[hmu0]
 exact cV (sk 2 A (sk 64 (congrArg some e0.1) (aB _))) (by simp only[e0.2,fS]<;>rfl) (fD (dR (us:=[jI n.ins,n.sv,n.av,n.ov]) (off:=0) 0 A A A A A A (aA A (aA o1n (aA o2n (aA o3n bA)))) A A) (fun v_ p_ h=>by show p_=[nB9 b1 n];exact h))
 intro vf pf hmu hR
 have e1:=hR 1 (by decide)
 have e2:(pf 2)=[nB9 b1 n]:=hR 2 (by decide)
 have pE2:=e2
 have q0:=hR 0 (by decide)
 have q1:=hR 1 (by decide)
 refine cE (bO [48,17,13,12,5,4,3,2,0] _ (sk 65 (congrArg some e1.1) (aB _)) A) (by simp only[pE2,q0.2,q1.2,fS]<;>rfl) ?_
 simp only[List.drop_succ_cons,List.drop_zero]
 refine bI (cs':=#[jI nb.ins,nb.sv,nb.av,nb.ov]) (i:=6) (off:=0) (us:=[jI nb.ins,nb.sv,nb.av,nb.ov]) A A A A A A A (aA A (aA o1b (aA o2b (aA o3b bA)))) A A A (bR ?_)
 refine aV (aZ 7 [6,5,4,2,1,0,3] A A (by decide) ?_)
 refine cZ (curE g a len cap::ntE nb::nB9 b1 n::nB9 b10 nb::bigE pmb::ntE n::nB9 b6 n::nB9 b2 nb::l) gD ?_
 refine aZ 8 [7,2,0,1,5] A A (by decide) ?_
 refine cB 2 A ?_
 refine aZ 4 [3,2,0,1] A A (by decide) ?_
 refine cB 2 A ?_
 exact eG (rs:=[.cell 2 28,.cell 3 28]) (vs:=[.agg #[jI n.ins,n.sv,n.av,n.ov],.agg #[jI nb.ins,nb.sv,nb.av,nb.ov]]) A ⟨⟨b1,0,[jI n.ins,n.sv,n.av,n.ov],A,A,by kernel_rfl,by kernel_rfl,aD 1 A 0 A⟩,⟨b2,0,[jI nb.ins,nb.sv,nb.av,nb.ov],A,A,by kernel_rfl,by kernel_rfl,aD 2 A 0 A⟩,trivial⟩ A (fun w hm=>⟨_,bigE [curE g a len cap,bigE [ntE n,ntE nb]],A,⟨_,n,nb,A,A,fun w hw=>⟨kU (aX hw cL),kU (aX hw (dK cL))⟩,⟨o1n,o2n,o3n⟩,⟨o1b,o2b,o3b⟩,hn,hsm,hnq1,hnq2,hnq3⟩,hm.sub (.cons_cons _ (kE 2 A))⟩)
 refine aU 1 A (aS A (cF ?_))
 refine cM A A A A A A (fun h30=>?_) (fun h30=>?_)
 refine aU 1 A (aR A (cF (aP A (aF (cs:=[jI n.ins,n.sv,n.av,n.ov]) A A A A A (aD 4 A 0 A)) ?_)))
 refine eB A A A (aJ A A (fun w hm=>kY n w (tX 3 A w hm) (by omega) (by omega) (by omega) (fun s hs=>(hn.sq s hs).len))) ?_
 intro v31 p32 R33
 obtain⟨pq,m,rfl,rfl,hpq,⟨o1m,o2m,o3m⟩,hcp⟩:=R33
 have hmk:NtOk m:=hcp.ok hn
 have hmg:m.gs.length=n.gs.length:=by rw[hcp.gs]
 have hmo:m.os.length=n.os.length:=by rw[hcp.os]
 have hmc:m.cnt=n.cnt:=hcp.cnt
 refine bI (cs':=#[jI m.ins,m.sv,m.av,m.ov]) (i:=4) (off:=0) (us:=[jI m.ins,m.sv,m.av,m.ov]) A A A A A A A (aA A (aA o1m (aA o2m (aA o3m bA)))) A A A (bR ?_)
 have hmcr:=eX hmk
 refine eE 11 [10,9,8,7,5,4,3,2,1,0,6] A A (by decide) ?_
 refine gG (l:=(rS9 46 3 m.sv m.ss sqC::rS9 67 2 m.av m.gs anC::rI9 3 m.ov m.os::bigE pq::nB9 b10 m::bigE pmb::ntE n::nB9 b6 n::eB9 b2::eB9 b1::l)) A 8 [0,1,2,3,4,5,6,7] (List.take 8 _) (List.drop 8 _) [[],[0],[],[],[3],[4],[2,5],[1]] [56,57,58,59,60,61,62,63] (fun i_ vs_ v_ p_=>match i_ with|0=>v_=.pointer (some ⟨b10,0+3,none⟩)∧p_=[]|1=>v_=m.ov∧p_=[]|2=>v_=pI g∧p_=[]|3=>v_=.agg #[jI m.ins,m.sv,m.av,m.ov]∧p_=[]|4=>v_=jI m.cnt∧p_=[]|5=>v_=jI (2*m.cnt)∧p_=[]|6=>(∃pm_,p_=[pm_]∧(fun u_ p_=>(∃x_:Int,u_=jI x_∧0≤x_∧x_<2*m.cnt)∧p_=curE g a len cap) v_ pm_)|7=>v_=elP m.ov ((0:Int).toNat*1)∧p_=[]|_=>True) [[],[0],[],[],[3],[4],[2,5],[1]] [none,none,none,none,none,none,some 9,none] [curE g a len cap] [0,1,2,3,4,5,6,7] 9 (List.take_append_drop 8 _).symm (by kernel_rfl) (by kernel_rfl) (by kernel_rfl) A A ?_ ?_
 refine⟨?_,?_,?_,?_,?_,?_,?_,?_,trivial⟩
 intro vf pf hmu hR
 refine fG [] [] A (bH (aI [5] A) ?_)
 exact aT (cQ 3 A A A)
 intro vf pf hmu hR
 have e0:=hR 0 (by decide)
 refine fG [0] [0] A (aW (sk 56 (congrArg some e0.1) (aB _)) (List.sublist_append_right _ _) ?_)
 exact aT (aN A A A (aH 4 A A))
 intro vf pf hmu hR
 refine fG [] [] A (bH (aI [0] A) ?_)
 exact aT (aK A)
 intro vf pf hmu hR
 refine fG [] [] A (aW (aI [5] A) (List.sublist_append_right _ _) ?_)
 exact aT (aF (cs:=[jI m.ins,m.sv,m.av,m.ov]) A A A A A (aD 4 A 0 A))
 intro vf pf hmu hR
 have e3:=hR 3 (by decide)
 refine fG [3] [3] A (aW (sk 59 (congrArg some e3.1) (aB _)) (List.sublist_append_right _ _) ?_)
 exact(aJ rfl rfl (fun w hm=>aY (cS m w (show RdsNt w m from⟨aG 0 rfl w hm,hpq w (hm.holds _ (bX (i:=3) rfl)),aG 1 rfl w hm,aG 2 rfl w hm⟩) hmk)))
 intro vf pf hmu hR
 have e4:=hR 4 (by decide)
 refine fG [4] [4] A (bH (sk 60 (congrArg some e4.1) (aB _)) ?_)
 exact aT (fO A A A (by constructor<;>omega))
 intro vf pf hmu hR
 have e2:=hR 2 (by decide)
 have e5:=hR 5 (by decide)
 refine Or.inl ⟨A,?_⟩
 show RunM _ _ _ (pf 9) (([2,5]:List Nat).flatMap pf++_) (envOf _ vf [2,5]++_) _ _
 rw[hmu]
 exact cV (sk 58 (congrArg some e2.1) (sk 61 (congrArg some e5.1) (aB _))) (by simp only[e2.2,e5.2,fS]<;>rfl) (eY (R:=(fun u_ p_=>(∃x_:Int,u_=jI x_∧0≤x_∧x_<2*m.cnt)∧p_=curE g a len cap)) A A (fun L w hX hm=>dW g a len cap z (2*m.cnt) _ _ _ hm hb (by constructor<;>omega)))
 intro vf pf hmu hR
 have e1:=hR 1 (by decide)
 refine fG [1] [1] A (aW (sk 57 (congrArg some e1.1) (aB _)) (List.sublist_append_right _ _) ?_)
 exact aT (dF 1 A A A A (aG 2 A))
 intro vf pf hmu hR
 have e6:(∃pm_,(pf 6)=[pm_]∧(fun u_ p_=>(∃x_:Int,u_=jI x_∧0≤x_∧x_<2*m.cnt)∧p_=curE g a len cap) (vf 6) pm_):=hR 6 (by decide)
 obtain⟨p35,pE6,R36⟩:=e6
 obtain⟨v34,vE6⟩:∃x,vf 6=x:=⟨_,rfl⟩
 rw[vE6] at R36
 obtain⟨⟨x36,rfl,x360,x361⟩,rfl⟩:=R36
 have e7:=hR 7 (by decide)
 have q0:=hR 0 (by decide)
 have q1:=hR 1 (by decide)
 have q2:=hR 2 (by decide)
 have q3:=hR 3 (by decide)
 have q4:=hR 4 (by decide)
 have q5:=hR 5 (by decide)
 have q7:=hR 7 (by decide)
 refine cE (bO [52,48,17,13,12,5,4,3,2,0] _ (sk 62 (congrArg some vE6) (sk 63 (congrArg some e7.1) (aB _))) A) (by simp only[pE6,vE6,q0.2,q1.2,q2.2,q3.2,q4.2,q5.2,q7.2,fS]<;>rfl) ?_
 simp only[List.drop_succ_cons,List.drop_zero]
 refine eN (i:=3) (n':=(m.os.set 0 x36).length) (xs':=(mI (m.os.set 0 x36))) A A A A A A A A (by first|omega|(simp only[List.length_set];omega)) List.length_set.symm (fB _ _ _) A (dB (cK (aC ?_)))
 refine eE 11 [9,8,7,6,5,4,3,2,1,0,10] A A (by decide) ?_
 refine eF (l:=(curE g a len cap::rS9 46 3 m.sv m.ss sqC::rS9 67 2 m.av m.gs anC::rowE 3 1 m.ov ((m.os.set 0 x36).length) (mI (m.os.set 0 x36))::bigE pq::nB9 b10 m::bigE pmb::ntE n::nB9 b6 n::eB9 b2::l)) A 3 [0,1,2] (List.take 3 _) (List.drop 3 _) [[],[],[0]] [some 64,some 65,none] (fun i_ vs_ v_ p_=>match i_ with|0=>v_=.agg #[jI n.ins,n.sv,n.av,n.ov]∧p_=[]|1=>v_=.agg #[jI m.ins,m.sv,m.av,m.ov]∧p_=[]|2=>p_=[nB9 b1 n]|_=>True) [[],[],[0]] [none,none,some 4] [[eB9 b1]] [0,1,2] 4 (List.take_append_drop 3 _).symm (by kernel_rfl) (by kernel_rfl) (by kernel_rfl) A A ?_ ?_
 refine⟨?_,?_,?_,trivial⟩
 intro vf pf hmu hR
 refine bL [] [] A (aW (aI [4] A) (List.sublist_append_right _ _) ?_)
 exact aT (aF (cs:=[jI n.ins,n.sv,n.av,n.ov]) A A A A A (aD 8 A 0 A))
 intro vf pf hmu hR
 refine bL [] [] A (aW (aI [5] A) (List.sublist_append_right _ _) ?_)
 exact aT (aF (cs:=[jI m.ins,m.sv,m.av,m.ov]) A A A A A (aD 5 A 0 A))
 intro vf pf hmu hR
 have e0:=hR 0 (by decide)
 refine Or.inl ⟨A,?_⟩
 show RunM _ _ _ (pf 4) (([0]:List Nat).flatMap pf++_) (envOf3 _ vf [0]++_) _ _
 have hmu0:pf 4=[eB9 b1]:=hmu 0 (show 0<1 by omega)
 rw[hmu0]
 exact cV (sk 2 A (sk 64 (congrArg some e0.1) (aB _))) (by simp only[e0.2,fS]<;>rfl) (fD (dR (us:=[jI n.ins,n.sv,n.av,n.ov]) (off:=0) 0 A A A A A A (aA A (aA o1n (aA o2n (aA o3n bA)))) A A) (fun v_ p_ h=>by show p_=[nB9 b1 n];exact h))
 intro vf pf hmu hR
 have e1:=hR 1 (by decide)
 have e2:(pf 2)=[nB9 b1 n]:=hR 2 (by decide)
 have pE2:=e2
 have q0:=hR 0 (by decide)
 have q1:=hR 1 (by decide)
 refine cE (bO [52,48,17,13,12,5,4,3,2,0] _ (sk 65 (congrArg some e1.1) (aB _)) A) (by simp only[pE2,q0.2,q1.2,fS]<;>rfl) ?_
 simp only[List.drop_succ_cons,List.drop_zero]
 refine bI (cs':=#[jI m.ins,m.sv,m.av,m.ov]) (i:=10) (off:=0) (us:=[jI m.ins,m.sv,m.av,m.ov]) A A A A A A A (aA A (aA o1m (aA o2m (aA o3m bA)))) A A A (bR ?_)
 refine aV (aZ 11 [10,1,0,5,4,3,2,8] A A (by decide) ?_)
 refine cB 5 A ?_
 refine aZ 4 [3,1,0,2] A A (by decide) ?_
 refine cB 2 A ?_
 exact eG (rs:=[.cell 2 28,.cell 3 28]) (vs:=[.agg #[jI n.ins,n.sv,n.av,n.ov],.agg #[jI m.ins,m.sv,m.av,m.ov]]) A ⟨⟨b1,0,[jI n.ins,n.sv,n.av,n.ov],A,A,by kernel_rfl,by kernel_rfl,aD 1 A 0 A⟩,⟨b2,0,[jI m.ins,m.sv,m.av,m.ov],A,A,by kernel_rfl,by kernel_rfl,aD 2 A 0 A⟩,trivial⟩ A (fun w hm=>⟨_,bigE [curE g a len cap,bigE [ntE n,rS9 46 3 m.sv m.ss sqC,rS9 67 2 m.av m.gs anC,rowE 3 1 m.ov ((m.os.set 0 x36).length) (mI (m.os.set 0 x36)),bigE pq]],A,⟨_,n,(Nt.mk m.ins m.sv m.av m.ov m.ss m.gs (m.os.set 0 x36)),A,A,fun w hw=>⟨kU (aX hw cL),⟨bT (aX hw (dK cL)),hpq w (aX hw (dK (dK (dK (dK cL))))),bT (aX hw (dK (dK cL))),bT (aX hw (dK (dK (dK cL))))⟩⟩,⟨o1n,o2n,o3n⟩,⟨o1m,o2m,o3m⟩,hn,by first|exact hmk.sm|exact tO hmk.sm ⟨by dsimp only;omega,by dsimp only;omega⟩|exact tN hmk.sm (by omega),hnq1,hnq2,hnq3⟩,hm.sub (.cons_cons _ (kE 2 A))⟩)
 refine aU 1 A (hH A (cK (aC ?_)))
 refine eE 7 [5,4,3,2,1,0,6] A A (by decide) ?_
 refine eF (l:=(nB9 b10 mb::bigE pmb::curE g a len cap::ntE n::nB9 b6 n::eB9 b2::l)) A 3 [0,1,2] (List.take 3 _) (List.drop 3 _) [[],[],[0]] [some 64,some 65,none] (fun i_ vs_ v_ p_=>match i_ with|0=>v_=.agg #[jI n.ins,n.sv,n.av,n.ov]∧p_=[]|1=>v_=.agg #[jI mb.ins,mb.sv,mb.av,mb.ov]∧p_=[]|2=>p_=[nB9 b1 n]|_=>True) [[],[],[0]] [none,none,some 4] [[eB9 b1]] [0,1,2] 4 (List.take_append_drop 3 _).symm (by kernel_rfl) (by kernel_rfl) (by kernel_rfl) A A ?_ ?_
 refine⟨?_,?_,?_,trivial⟩
 intro vf pf hmu hR
 refine bL [] [] A (aW (aI [4] A) (List.sublist_append_right _ _) ?_)
 exact aT (aF (cs:=[jI n.ins,n.sv,n.av,n.ov]) A A A A A (aD 4 A 0 A))
 intro vf pf hmu hR
 refine bL [] [] A (aW (aI [5] A) (List.sublist_append_right _ _) ?_)
 exact aT (aF (cs:=[jI mb.ins,mb.sv,mb.av,mb.ov]) A A A A A (aD 0 A 0 A))
 intro vf pf hmu hR
 have e0:=hR 0 (by decide)
 refine Or.inl ⟨A,?_⟩
 show RunM _ _ _ (pf 4) (([0]:List Nat).flatMap pf++_) (envOf3 _ vf [0]++_) _ _
 have hmu0:pf 4=[eB9 b1]:=hmu 0 (show 0<1 by omega)
 rw[hmu0]
 exact cV (sk 2 A (sk 64 (congrArg some e0.1) (aB _))) (by simp only[e0.2,fS]<;>rfl) (fD (dR (us:=[jI n.ins,n.sv,n.av,n.ov]) (off:=0) 0 A A A A A A (aA A (aA o1n (aA o2n (aA o3n bA)))) A A) (fun v_ p_ h=>by show p_=[nB9 b1 n];exact h))
 intro vf pf hmu hR
 have e1:=hR 1 (by decide)
 have e2:(pf 2)=[nB9 b1 n]:=hR 2 (by decide)
 have pE2:=e2
 have q0:=hR 0 (by decide)
 have q1:=hR 1 (by decide)
 refine cE (bO [52,48,17,13,12,5,4,3,2,0] _ (sk 65 (congrArg some e1.1) (aB _)) A) (by simp only[pE2,q0.2,q1.2,fS]<;>rfl) ?_
 simp only[List.drop_succ_cons,List.drop_zero]
 refine bI (cs':=#[jI mb.ins,mb.sv,mb.av,mb.ov]) (i:=6) (off:=0) (us:=[jI mb.ins,mb.sv,mb.av,mb.ov]) A A A A A A A (aA A (aA o1mb (aA o2mb (aA o3mb bA)))) A A A (bR ?_)
 refine aV (aZ 7 [6,3,0,2,4] A A (by decide) ?_)
 refine cB 2 A ?_
 refine aZ 4 [3,1,0,2] A A (by decide) ?_
 refine cB 2 A ?_
 exact eG (rs:=[.cell 2 28,.cell 3 28]) (vs:=[.agg #[jI n.ins,n.sv,n.av,n.ov],.agg #[jI mb.ins,mb.sv,mb.av,mb.ov]]) A ⟨⟨b1,0,[jI n.ins,n.sv,n.av,n.ov],A,A,by kernel_rfl,by kernel_rfl,aD 1 A 0 A⟩,⟨b2,0,[jI mb.ins,mb.sv,mb.av,mb.ov],A,A,by kernel_rfl,by kernel_rfl,aD 2 A 0 A⟩,trivial⟩ A (fun w hm=>⟨_,bigE [curE g a len cap,bigE [ntE n,bigE pmb]],A,⟨_,n,mb,A,A,fun w hw=>⟨kU (aX hw cL),hpmb w (aX hw (dK cL))⟩,⟨o1n,o2n,o3n⟩,⟨o1mb,o2mb,o3mb⟩,hn,hokmb.sm,hnq1,hnq2,hnq3⟩,hm.sub (.cons_cons _ (kE 2 A))⟩)
theorem vD (a:Option Addr) (len cap:Nat) (z:List Int) (w:World) (hb:BRow .u8 w a len cap z) (hlen:len≤1048576) :
   Calls Tryz.prog 5 #[.slice a len cap] w (Ret w (fun u_ p_=>∃(ps:List HP) (na nb:Nt),u_=.tuple #[na.agg,nb.agg]∧p_=[bigE ps]∧(∀w,(bigE ps).holds w→RdsNt w na∧RdsNt w nb)∧(na.sv.oneCell'=true∧na.av.oneCell'=true∧na.ov.oneCell'=true)∧(nb.sv.oneCell'=true∧nb.av.oneCell'=true∧nb.ov.oneCell'=true)∧NtOk na∧NtSm nb∧na.ins≤4∧(na.ss.length:Int)≤3∧(na.gs.length:Int)≤14)):=by
 refine bN (N:=9) (args:=[.slice a len cap]) Tryz.func5 A A (cF ?_)
 refine cR A (bP (z:=.agg #[jI 0,.slice none 0 0,.slice none 0 0,.slice none 0 0]) A A) ?_
 intro b1
 refine cR A (bP (z:=.agg #[jI 0,.slice none 0 0,.slice none 0 0,.slice none 0 0]) A A) ?_
 intro b2
 refine bR (aC (bZ 1 A ?_))
 refine eB A A A (aJ A A (fun w hm=>Fj (hb.below hm.bel) hlen)) ?_
 intro v3 p4 R5
 obtain⟨g5,rfl,rfl⟩:=R5
 refine eH (R:=(fun u_ p_=>∃(ps:List HP) (na nb:Nt),u_=.tuple #[na.agg,nb.agg]∧p_=bigE [curE g5 a len cap,bigE ps]∧(∀w,(bigE ps).holds w→RdsNt w na∧RdsNt w nb)∧(na.sv.oneCell'=true∧na.av.oneCell'=true∧na.ov.oneCell'=true)∧(nb.sv.oneCell'=true∧nb.av.oneCell'=true∧nb.ov.oneCell'=true)∧NtOk na∧NtSm nb∧na.ins≤4∧(na.ss.length:Int)≤3∧(na.gs.length:Int)≤14)) 0 A A A A A (fun l' w hm=>wD g5 a len cap z _ _ _ hm hb) ?_
 intro v6 p7 R8
 obtain⟨ps,na,nb,rfl,rfl,hps,⟨o1a,o2a,o3a⟩,⟨o1b,o2b,o3b⟩,hna,hnb,hq1,hq2,hq3⟩:=R8
 refine eC (l':=[bigE [curE g5 a len cap,bigE ps],eB9 b2,eB9 b1]) A ?_
 refine aM 2 A (bI (cs':=#[jI na.ins,na.sv,na.av,na.ov]) (i:=2) (off:=0) (us:=[jI na.ins,na.sv,na.av,na.ov]) A A A A A A A (aA A (aA o1a (aA o2a (aA o3a bA)))) A A A ?_)
 refine bI (cs':=#[jI nb.ins,nb.sv,nb.av,nb.ov]) (i:=1) (off:=0) (us:=[jI nb.ins,nb.sv,nb.av,nb.ov]) A A A A A A A (aA A (aA o1b (aA o2b (aA o3b bA)))) A A A (bR ?_)
 refine aV (aZ 3 [2,1,0] A A (by decide) ?_)
 refine cZ [curE g5 a len cap,bigE ps,nB9 b2 nb,nB9 b1 na] gD ?_
 exact bV (rs:=[.cell 2 28,.cell 3 28]) (vs:=[.agg #[jI na.ins,na.sv,na.av,na.ov],.agg #[jI nb.ins,nb.sv,nb.av,nb.ov]]) (post:=[bigE ps]) A ⟨⟨b1,0,[jI na.ins,na.sv,na.av,na.ov],A,A,by kernel_rfl,by kernel_rfl,aD 3 A 0 A⟩,⟨b2,0,[jI nb.ins,nb.sv,nb.av,nb.ov],A,A,by kernel_rfl,by kernel_rfl,aD 2 A 0 A⟩,trivial⟩ A (eJ [1] A) ⟨ps,na,nb,A,A,hps,⟨o1a,o2a,o3a⟩,⟨o1b,o2b,o3b⟩,hna,hnb,hq1,hq2,hq3⟩
theorem Gg {a b:Nt}{cd y:Int}{pr:List CRow}(h:CeqR a b cd y pr) (e:mtO a b=none):cd=0:=by
  cases h with
  | bad h=>rfl
  | yes e2=>rw[e] at e2;cases e2
  | no e2=>rw[e] at e2;cases e2
theorem ceq_1 {a b:Nt}{cd y:Int}{pr:List CRow}{r:List An×Int}(h:CeqR a b cd y pr) (e:mtO a b=some r) (hc:cd=1):(∀y,rtV a y=rtV b y)∧MtPrf a r pr:=by
  cases h with
  | bad e2=>rw[e] at e2;cases e2
  | yes e2 h1 h2=>rw[e] at e2;cases e2;exact⟨h1,h2⟩
  | no e2=>exact absurd hc (by decide)
theorem ceq_2 {a b:Nt}{cd y:Int}{pr:List CRow}{r:List An×Int}(h:CeqR a b cd y pr) (e:mtO a b=some r) (hc:cd≠1):cd=2∧rtV a y≠rtV b y:=by
  cases h with
  | bad e2=>rw[e] at e2;cases e2
  | yes e2 h1 h2=>exact absurd rfl hc
  | no e2 h1=>exact⟨rfl,h1⟩
theorem Fb (n:Nt) (y:Int):(rvL n y (rtsL n n.ss.length).length).length=(rtsL n n.ss.length).length:=by rw[qJ];unfold rtV;rw[List.length_map]
theorem extM {a b:List Int}(hl:a.length=b.length) (h:∀i,i<a.length→a.getD i 0=b.getD i 0):a=b:=by
  refine List.ext_getElem hl (fun i h1 h2=>?_)
  have:=h i h1
  rwa [List.getD_eq_getElem?_getD,List.getD_eq_getElem?_getD,List.getElem?_eq_getElem h1,List.getElem?_eq_getElem h2] at this
theorem jZ (xs ys:List Int) (u v:Value) (w:World) (hu:RdsW w u 1 xs.length (xs.map (Value.int .i64))) (hv:RdsW w v 1 ys.length (ys.map (Value.int .i64))) :
   Calls Tryz.prog 12 #[u,v] w (Ans w (.bool (decide (xs=ys)))):=by
 have hu9:=sml hu
 have hv9:=sml hv
 refine bN (N:=26) (args:=[u,v]) Tryz.func12 A A (bD 1 A (aC (aC (bZ 1 A (aP A (bC A Tryz.underlying26 A (aE hu)) (aM 1 A (aP A (bC A Tryz.underlying26 A (aE hv)) ?_)))))))
 refine hQ A A A A A A (fun h1=>?_) (fun h1=>?_)
 refine bR (aR A (bD 1 A ?_))
 refine aV (aL ?_)
 exact cA A A (congrArg _ (decide_eq_false (fun he=>by subst he;first|omega|contradiction|simp_all)).symm)
 refine bR (aS A (bY (aC (bD 1 A (bE ?_)))))
 refine hO (α:=Nat) [0,1,4,10] A (fun j=>[]) (fun j=>[(5,jI (j:Int))]) (fun j=>j≤xs.length∧∀i,i<j→xs.getD i 0=ys.getD i 0) (fun j=>xs.length-j) 0 ⟨by omega,fun i hi=>absurd hi (by omega)⟩ (cT A) (.slnil) ?_
 intro j hi2
 obtain⟨hk1,hk2⟩:=hi2
 refine aC (aC (bZ 2 A (aP A (bC A Tryz.underlying26 A (aE hu)) ?_)))
 refine bQ A A A A A A (fun h3=>?_) (fun h3=>?_)
 refine bR (aR A (bY (fM (aC ?_))))
 refine cJ 9 [[],[],[0,1],[2],[],[],[4,5],[6],[3,7]] [17,18,19,20,21,22,23,24,25] [u,jI (j:Int),elP u ((j:Int).toNat*1),jI (xs.getD j 0),v,jI (j:Int),elP v ((j:Int).toNat*1),jI (ys.getD j 0),.bool ((xs.getD j 0) != (ys.getD j 0))] (by kernel_rfl) A ?_ ?_
 exact⟨bK A (aK A) A,bK A (aK A) A,bK A (dF 1 A A A A (aE hu)) A,bK A (hC A A A (aE hu)) A,bK A (aK A) A,bK A (aK A) A,bK A (dF 1 A A A A (aE hv)) A,bK A (hC A A A (aE hv)) A,bK A (dC A A A A) A,trivial⟩
 simp only[List.drop_succ_cons,List.drop_zero]
 refine bR ?_
 refine fU A (fun h4=>?_) (fun h4=>?_)
 have h4p:xs.getD j 0≠ys.getD j 0:=bne_iff_ne.1 h4
 refine bD 1 A ?_
 refine aV (aQ ?_)
 refine fL ?_
 refine aQ (aL ?_)
 exact cA A A (congrArg _ (decide_eq_false (fun he=>by subst he;first|omega|contradiction|simp_all)).symm)
 have h4p:xs.getD j 0=ys.getD j 0:=(bne_eq_false_iff_eq.1 h4)
 refine fP (cK (bZ 1 A (aP A (dM A A A) (dJ 1 A ?_))))
 exact cU (j+1) ⟨by omega,fun i hi=>by by_cases hij:i=j;(subst hij;simpa using (by assumption));exact hk2 i (by omega)⟩ (by omega) (cT A) (.slnil)
 refine bR (aS A ?_)
 refine bM (dI ?_)
 refine aO (bF (bD 1 A ?_))
 exact aV (cA A A (congrArg _ (decide_eq_true (extM (by omega) (fun i hi=>hk2 i (by omega)))).symm))
theorem walk_FnEqualMeans (a0:Option Addr) (len0 cap0:Nat) (z0:List Int) (w:World) (hbr:BRow .u8 w a0 len0 cap0 z0) :
   Calls Tryz.prog 3 #[.slice a0 len0 cap0] w (Ans w (.bool true)):=by
 have hcd0:=Ei hbr 0
 have hcd1:=Ei hbr 1
 refine bN (N:=87) (args:=[.slice a0 len0 cap0]) Tryz.func3 A A (bD 1 A (aC (aC (bZ 1 A ?_))))
 refine dA A (aJ A A (fun w hm=>aY (gP (Gh a0 len0 cap0 w (hbr.len_le))))) (bW (fun h1=>?_) (fun h1=>?_))
 have h1p:=of_decide_eq_true h1
 refine bR (aR A (bD 1 A ?_))
 refine aV (aL ?_)
 exact cA A A A
 have h1p:=of_decide_eq_false h1
 refine bR (aS A (bY (aC (bZ 1 A ?_))))
 refine eB A A A (aJ A A (fun w hm=>vD a0 len0 cap0 z0 w (hbr.below hm.bel) (by omega))) ?_
 intro v2 p3 R4
 obtain⟨pd,na,nb,rfl,rfl,hpd,⟨o1a,o2a,o3a⟩,⟨o1b,o2b,o3b⟩,hna,hnb,hq1,hq2,hq3⟩:=R4
 have hf8:na.fst≤8:=by show 1+na.ins+(na.ss.length:Int)≤8;omega
 refine aM 3 A (cR A (bP (z:=.agg #[jI 0,.slice none 0 0,.slice none 0 0,.slice none 0 0]) A A) ?_)
 intro b5
 refine cR A (bP (z:=.agg #[jI 0,.slice none 0 0,.slice none 0 0,.slice none 0 0]) A A) ?_
 intro b6
 refine bI (cs':=#[jI na.ins,na.sv,na.av,na.ov]) (i:=1) (off:=0) (us:=[jI na.ins,na.sv,na.av,na.ov]) A A A A A A A (aA A (aA o1a (aA o2a (aA o3a bA)))) A A A (bI (cs':=#[jI nb.ins,nb.sv,nb.av,nb.ov]) (i:=0) (off:=0) (us:=[jI nb.ins,nb.sv,nb.av,nb.ov]) A A A A A A A (aA A (aA o1b (aA o2b (aA o3b bA)))) A A A ?_)
 refine bR (cF (aP A (aF (cs:=[jI na.ins,na.sv,na.av,na.ov]) A A A A A (aD 1 A 0 A)) (aP A (aF (cs:=[jI nb.ins,nb.sv,nb.av,nb.ov]) A A A A A (aD 0 A 0 A)) ?_)))
 refine eB A A A (aJ A A (fun w hm=>rS na nb w (hpd w (hm.holds _ (bX (i:=2) A))).1 (hpd w (hm.holds _ (bX (i:=2) A))).2 hna.sm hnb)) ?_
 intro v7 p8 R9
 obtain⟨psm,sm,rfl,rfl,hpsm,⟨o1s,o2s,o3s⟩,hsmi⟩:=R9
 refine aM 3 A (cR A (bP (z:=.agg #[jI 0,.slice none 0 0,.slice none 0 0,.slice none 0 0]) A A) ?_)
 intro b10
 refine bI (cs':=#[jI sm.ins,sm.sv,sm.av,sm.ov]) (i:=0) (off:=0) (us:=[jI sm.ins,sm.sv,sm.av,sm.ov]) A A A A A A A (aA A (aA o1s (aA o2s (aA o3s bA)))) A A A (aU 1 A (cF (aP A (aF (cs:=[jI na.ins,na.sv,na.av,na.ov]) A A A A A (aD 3 A 0 A)) (aP A (aF (cs:=[jI nb.ins,nb.sv,nb.av,nb.ov]) A A A A A (aD 2 A 0 A)) ?_))))
 refine eB A A A (aJ A A (fun w hm=>zH na nb w (hpd w (hm.holds _ (bX (i:=4) A))).1 (hpd w (hm.holds _ (bX (i:=4) A))).2 hna.sm hnb hf8)) ?_
 intro v11 p12 R13
 obtain⟨pc,cd,yy,pq,pr,rfl,rfl,hpc,hpq1,hyy,hceq⟩:=R13
 refine aU 7 A (aC (aC (bZ 1 A ?_)))
 refine bW (fun h14=>?_) (fun h14=>?_)
 obtain⟨r,hr⟩:=Option.isSome_iff_exists.1 h14
 have hok:=(vX hr).1.hb
 refine aU 1 A (aS A (bY (aC (aC (bZ 1 A ?_)))))
 refine cM A A A A A A (fun h15=>?_) (fun h15=>?_)
 refine bR (aR A (cF ?_))
 obtain⟨hall,hP⟩:=ceq_1 hceq hr (by omega)
 refine aM 1 A (dA A (aJ A A (fun w hm=>aY (Eq hbr 0 (by omega) w hm))) ?_)
 refine aM 1 A (dA A (aJ A A (fun w hm=>aY (Eq hbr 1 (by omega) w hm))) ?_)
 refine aP A (fO A A A (by constructor<;>omega)) (aP A (dM A A A) (aU 1 A (aC ?_)))
 have hb22:(decide ((rvL na ((cod z0 len0 0:Int)+(256*(cod z0 len0 1:Int))) (rtsL na na.ss.length).length)=(rvL nb ((cod z0 len0 0:Int)+(256*(cod z0 len0 1:Int))) (rtsL nb nb.ss.length).length)))=true:=(decide_eq_true (by rw[qJ,qJ];exact hall _))
 refine eV A 13 [0,1,2,3,4,5,6,7,8,9,10,11,12] (List.take 13 _) (List.drop 13 _) [[],[],[],[0,1,2],[3],[4],[4],[4,5,6],[4],[4],[4,8,9],[4,7,10],[4,11]] [52,53,54,55,56,57,58,59,60,61,62,63,64] (fun i_ vs_ v_ p_=>match i_ with|0=>v_=.agg #[jI na.ins,na.sv,na.av,na.ov]∧p_=[]|1=>v_=.agg #[jI nb.ins,nb.sv,nb.av,nb.ov]∧p_=[]|2=>v_=pq∧p_=[]|3=>v_=.bool true∧p_=[]|4=>v_=.bool true∧p_=[]|5=>v_=.agg #[jI na.ins,na.sv,na.av,na.ov]∧p_=[]|6=>v_=jI ((cod z0 len0 0:Int)+(256*(cod z0 len0 1:Int)))∧p_=[]|7=>(fun v' post=>post=[rowE 3 1 v' ((rvL na ((cod z0 len0 0:Int)+(256*(cod z0 len0 1:Int))) (rtsL na na.ss.length).length)).length (((rvL na ((cod z0 len0 0:Int)+(256*(cod z0 len0 1:Int))) (rtsL na na.ss.length).length)).map (Value.int .i64))]) v_ p_|8=>v_=.agg #[jI nb.ins,nb.sv,nb.av,nb.ov]∧p_=[]|9=>v_=jI ((cod z0 len0 0:Int)+(256*(cod z0 len0 1:Int)))∧p_=[]|10=>(fun v' post=>post=[rowE 3 1 v' ((rvL nb ((cod z0 len0 0:Int)+(256*(cod z0 len0 1:Int))) (rtsL nb nb.ss.length).length)).length (((rvL nb ((cod z0 len0 0:Int)+(256*(cod z0 len0 1:Int))) (rtsL nb nb.ss.length).length)).map (Value.int .i64))]) v_ p_|11=>v_=.bool true∧p_=[]|12=>v_=.bool true∧p_=[]|_=>True) (List.take_append_drop 13 _).symm (by kernel_rfl) (by kernel_rfl) A A ?_ ?_
 refine⟨?_,?_,?_,?_,?_,?_,?_,?_,?_,?_,?_,?_,?_,trivial⟩
 intro vf pf hR
 exact eZ A (aI [3] A) (aT (aF (cs:=[jI na.ins,na.sv,na.av,na.ov]) A A A A A (aD 4 A 0 A)))
 intro vf pf hR
 exact eZ A (aI [4] A) (aT (aF (cs:=[jI nb.ins,nb.sv,nb.av,nb.ov]) A A A A A (aD 3 A 0 A)))
 intro vf pf hR
 exact fX A (aI [9] A) (aT (aK A))
 intro vf pf hR
 have e0:=hR 0 (by decide)
 have e1:=hR 1 (by decide)
 have e2:=hR 2 (by decide)
 exact eZ A (sk 52 (congrArg some e0.1) (sk 53 (congrArg some e1.1) (sk 54 (congrArg some e2.1) (aB _)))) (aJ A A (fun w hm=>aY (rM na nb pr pq r w (hpd w (hm.holds _ (bX (i:=5) A))).1 (hpd w (hm.holds _ (bX (i:=5) A))).2 hna.sm hnb hf8 (hpc w (hm.holds _ (bX (i:=0) A))) hr hP)))
 intro vf pf hR
 have e3:=hR 3 (by decide)
 exact fX A (sk 55 (congrArg some e3.1) (aB _)) (aT (aK A))
 intro vf pf hR
 have e4:=hR 4 (by decide)
 refine Or.inl ⟨dT (congrArg some e4.1) A,?_⟩
 exact aW (aI [3] A) (List.sublist_append_right _ _) (aT (aF (cs:=[jI na.ins,na.sv,na.av,na.ov]) A A A A A (aD 4 A 0 A)))
 intro vf pf hR
 have e4:=hR 4 (by decide)
 refine Or.inl ⟨dT (congrArg some e4.1) A,?_⟩
 exact bH (aI [10] A) (aT (aK A))
 intro vf pf hR
 have e4:=hR 4 (by decide)
 have e5:=hR 5 (by decide)
 have e6:=hR 6 (by decide)
 refine Or.inl ⟨dT (congrArg some e4.1) A,?_⟩
 exact aW (sk 57 (congrArg some e5.1) (sk 58 (congrArg some e6.1) (aB _))) (List.sublist_append_right _ _) (aJ A A (fun w hm=>iL na ((cod z0 len0 0:Int)+(256*(cod z0 len0 1:Int))) w (hpd w (hm.holds _ (bX (i:=5) A))).1 hna (by omega)))
 intro vf pf hR
 have e4:=hR 4 (by decide)
 refine Or.inl ⟨dT (congrArg some e4.1) A,?_⟩
 exact aW (aI [4] A) (List.sublist_append_right _ _) (aT (aF (cs:=[jI nb.ins,nb.sv,nb.av,nb.ov]) A A A A A (aD 3 A 0 A)))
 intro vf pf hR
 have e4:=hR 4 (by decide)
 refine Or.inl ⟨dT (congrArg some e4.1) A,?_⟩
 exact bH (aI [10] A) (aT (aK A))
 intro vf pf hR
 have e4:=hR 4 (by decide)
 have e8:=hR 8 (by decide)
 have e9:=hR 9 (by decide)
 refine Or.inl ⟨dT (congrArg some e4.1) A,?_⟩
 exact aW (sk 60 (congrArg some e8.1) (sk 61 (congrArg some e9.1) (aB _))) (List.sublist_append_right _ _) (aJ A A (fun w hm=>iL nb ((cod z0 len0 0:Int)+(256*(cod z0 len0 1:Int))) w (hpd w (hm.holds _ (bX (i:=5) A))).2 hok (by omega)))
 intro vf pf hR
 have e4:=hR 4 (by decide)
 have e7:(fun v' post=>post=[rowE 3 1 v' ((rvL na ((cod z0 len0 0:Int)+(256*(cod z0 len0 1:Int))) (rtsL na na.ss.length).length)).length (((rvL na ((cod z0 len0 0:Int)+(256*(cod z0 len0 1:Int))) (rtsL na na.ss.length).length)).map (Value.int .i64))]) (vf 7) (pf 7):=hR 7 (by decide)
 obtain⟨v16,vE7⟩:∃x,vf 7=x:=⟨_,rfl⟩
 obtain⟨p17,pE7⟩:∃x,pf 7=x:=⟨_,rfl⟩
 have R18:=e7
 rw[vE7,pE7] at R18
 subst R18
 have e10:(fun v' post=>post=[rowE 3 1 v' ((rvL nb ((cod z0 len0 0:Int)+(256*(cod z0 len0 1:Int))) (rtsL nb nb.ss.length).length)).length (((rvL nb ((cod z0 len0 0:Int)+(256*(cod z0 len0 1:Int))) (rtsL nb nb.ss.length).length)).map (Value.int .i64))]) (vf 10) (pf 10):=hR 10 (by decide)
 obtain⟨v19,vE10⟩:∃x,vf 10=x:=⟨_,rfl⟩
 obtain⟨p20,pE10⟩:∃x,pf 10=x:=⟨_,rfl⟩
 have R21:=e10
 rw[vE10,pE10] at R21
 subst R21
 refine Or.inl ⟨dT (congrArg some e4.1) A,?_⟩
 exact bU (sk 59 (congrArg some vE7) (sk 62 (congrArg some vE10) (aB _))) (by simp only[pE7,vE7,pE10,vE10,e4.2,fS]<;>rfl) (cD (aJ A A (fun w hm=>aY (jZ (rvL na ((cod z0 len0 0:Int)+(256*(cod z0 len0 1:Int))) (rtsL na na.ss.length).length) (rvL nb ((cod z0 len0 0:Int)+(256*(cod z0 len0 1:Int))) (rtsL nb nb.ss.length).length) _ _ w ((aG 0 A) w hm) ((aG 1 A) w hm)))) (fun _ _ h=>⟨h.1.trans (congrArg Value.bool hb22),h.2⟩))
 intro vf pf hR
 have e4:=hR 4 (by decide)
 have e11:=hR 11 (by decide)
 exact fX A (sk 56 (congrArg some e4.1) (sk 63 (congrArg some e11.1) (aB _))) (aT (aK A))
 intro vf pf hR
 have e7:(fun v' post=>post=[rowE 3 1 v' ((rvL na ((cod z0 len0 0:Int)+(256*(cod z0 len0 1:Int))) (rtsL na na.ss.length).length)).length (((rvL na ((cod z0 len0 0:Int)+(256*(cod z0 len0 1:Int))) (rtsL na na.ss.length).length)).map (Value.int .i64))]) (vf 7) (pf 7):=hR 7 (by decide)
 obtain⟨v16,vE7⟩:∃x,vf 7=x:=⟨_,rfl⟩
 obtain⟨p17,pE7⟩:∃x,pf 7=x:=⟨_,rfl⟩
 have R18:=e7
 rw[vE7,pE7] at R18
 subst R18
 have e10:(fun v' post=>post=[rowE 3 1 v' ((rvL nb ((cod z0 len0 0:Int)+(256*(cod z0 len0 1:Int))) (rtsL nb nb.ss.length).length)).length (((rvL nb ((cod z0 len0 0:Int)+(256*(cod z0 len0 1:Int))) (rtsL nb nb.ss.length).length)).map (Value.int .i64))]) (vf 10) (pf 10):=hR 10 (by decide)
 obtain⟨v19,vE10⟩:∃x,vf 10=x:=⟨_,rfl⟩
 obtain⟨p20,pE10⟩:∃x,pf 10=x:=⟨_,rfl⟩
 have R21:=e10
 rw[vE10,pE10] at R21
 subst R21
 have e12:=hR 12 (by decide)
 have q0:=hR 0 (by decide)
 have q1:=hR 1 (by decide)
 have q2:=hR 2 (by decide)
 have q3:=hR 3 (by decide)
 have q4:=hR 4 (by decide)
 have q5:=hR 5 (by decide)
 have q6:=hR 6 (by decide)
 have q8:=hR 8 (by decide)
 have q9:=hR 9 (by decide)
 have q11:=hR 11 (by decide)
 have q12:=hR 12 (by decide)
 refine cE (bO [45,32,12,10,9,8,7,6,4,3,2,0] _ (sk 64 (congrArg some e12.1) (aB _)) A) (by simp only[pE7,vE7,pE10,vE10,q0.2,q1.2,q2.2,q3.2,q4.2,q5.2,q6.2,q8.2,q9.2,q11.2,q12.2,fS]<;>rfl) ?_
 simp only[List.drop_succ_cons,List.drop_zero]
 refine aU 1 A ?_
 refine aV (aL ?_)
 exact cA A A A
 refine bR (aS A (bY (aC ?_)))
 obtain⟨hcd2,hne⟩:=ceq_2 hceq hr (by omega)
 have hb23:(cd==2)=true:=beq_iff_eq.2 (by omega)
 have hb30:(decide ((rvL na yy (rtsL na na.ss.length).length)=(rvL nb yy (rtsL nb nb.ss.length).length)))=false:=(decide_eq_false (by rw[qJ,qJ];exact hne))
 have hb37:(decide ((rvL na yy (rtsL na na.ss.length).length)=(rvL nb yy (rtsL nb nb.ss.length).length)))=false:=(decide_eq_false (by rw[qJ,qJ];exact hne))
 refine eV A 22 [0,1,2,3,4,5,6,7,8,9,10,11,12,13,14,15,16,17,18,19,20,21] (List.take 22 _) (List.drop 22 _) [[],[0],[1],[2],[2],[2,3,4],[2],[2],[2,6,7],[2,5,8],[2,9],[2,10],[11],[12],[12],[12,13,14],[12],[12],[12,16,17],[12,15,18],[12,19],[12,20]] [65,66,67,68,69,70,71,72,73,74,75,76,77,78,79,80,81,82,83,84,85,86] (fun i_ vs_ v_ p_=>match i_ with|0=>v_=jI cd∧p_=[]|1=>v_=.bool true∧p_=[]|2=>v_=.bool true∧p_=[]|3=>v_=.agg #[jI na.ins,na.sv,na.av,na.ov]∧p_=[]|4=>v_=jI yy∧p_=[]|5=>(fun v' post=>post=[rI9 3 v' ((rvL na yy (rtsL na na.ss.length).length))]) v_ p_|6=>v_=.agg #[jI nb.ins,nb.sv,nb.av,nb.ov]∧p_=[]|7=>v_=jI yy∧p_=[]|8=>(fun v' post=>post=[rI9 3 v' ((rvL nb yy (rtsL nb nb.ss.length).length))]) v_ p_|9=>v_=.bool false∧p_=[]|10=>v_=.bool true∧p_=[]|11=>v_=.bool true∧p_=[]|12=>v_=.bool true∧p_=[]|13=>v_=.agg #[jI na.ins,na.sv,na.av,na.ov]∧p_=[]|14=>v_=jI yy∧p_=[]|15=>(fun v' post=>post=[rI9 3 v' ((rvL na yy (rtsL na na.ss.length).length))]) v_ p_|16=>v_=.agg #[jI nb.ins,nb.sv,nb.av,nb.ov]∧p_=[]|17=>v_=jI yy∧p_=[]|18=>(fun v' post=>post=[rI9 3 v' ((rvL nb yy (rtsL nb nb.ss.length).length))]) v_ p_|19=>v_=.bool false∧p_=[]|20=>v_=.bool true∧p_=[]|21=>v_=.bool true∧p_=[]|_=>True) (List.take_append_drop 22 _).symm (by kernel_rfl) (by kernel_rfl) A A ?_ ?_
 refine⟨?_,?_,?_,?_,?_,?_,?_,?_,?_,?_,?_,?_,?_,?_,?_,?_,?_,?_,?_,?_,?_,?_,trivial⟩
 intro vf pf hR
 exact fX A (aI [7] A) (aT (aK A))
 intro vf pf hR
 have e0:=hR 0 (by decide)
 exact fX A (sk 65 (congrArg some e0.1) (aB _)) (cD (aT (dC A A A A)) (fun _ _ h=>⟨h.1.trans (congrArg Value.bool hb23),h.2⟩))
 intro vf pf hR
 have e1:=hR 1 (by decide)
 exact fX A (sk 66 (congrArg some e1.1) (aB _)) (aT (aK A))
 intro vf pf hR
 have e2:=hR 2 (by decide)
 refine Or.inl ⟨dT (congrArg some e2.1) A,?_⟩
 exact aW (aI [3] A) (List.sublist_append_right _ _) (aT (aF (cs:=[jI na.ins,na.sv,na.av,na.ov]) A A A A A (aD 4 A 0 A)))
 intro vf pf hR
 have e2:=hR 2 (by decide)
 refine Or.inl ⟨dT (congrArg some e2.1) A,?_⟩
 exact bH (aI [8] A) (aT (aK A))
 intro vf pf hR
 have e2:=hR 2 (by decide)
 have e3:=hR 3 (by decide)
 have e4:=hR 4 (by decide)
 refine Or.inl ⟨dT (congrArg some e2.1) A,?_⟩
 exact aW (sk 68 (congrArg some e3.1) (sk 69 (congrArg some e4.1) (aB _))) (List.sublist_append_right _ _) (aJ A A (fun w hm=>kD na yy w (hpd w (hm.holds _ (bX (i:=5) A))).1 hna (by omega)))
 intro vf pf hR
 have e2:=hR 2 (by decide)
 refine Or.inl ⟨dT (congrArg some e2.1) A,?_⟩
 exact aW (aI [4] A) (List.sublist_append_right _ _) (aT (aF (cs:=[jI nb.ins,nb.sv,nb.av,nb.ov]) A A A A A (aD 3 A 0 A)))
 intro vf pf hR
 have e2:=hR 2 (by decide)
 refine Or.inl ⟨dT (congrArg some e2.1) A,?_⟩
 exact bH (aI [8] A) (aT (aK A))
 intro vf pf hR
 have e2:=hR 2 (by decide)
 have e6:=hR 6 (by decide)
 have e7:=hR 7 (by decide)
 refine Or.inl ⟨dT (congrArg some e2.1) A,?_⟩
 exact aW (sk 71 (congrArg some e6.1) (sk 72 (congrArg some e7.1) (aB _))) (List.sublist_append_right _ _) (aJ A A (fun w hm=>kD nb yy w (hpd w (hm.holds _ (bX (i:=5) A))).2 hok (by omega)))
 intro vf pf hR
 have e2:=hR 2 (by decide)
 have e5:(fun v' post=>post=[rI9 3 v' ((rvL na yy (rtsL na na.ss.length).length))]) (vf 5) (pf 5):=hR 5 (by decide)
 obtain⟨v24,vE5⟩:∃x,vf 5=x:=⟨_,rfl⟩
 obtain⟨p25,pE5⟩:∃x,pf 5=x:=⟨_,rfl⟩
 have R26:=e5
 rw[vE5,pE5] at R26
 subst R26
 have e8:(fun v' post=>post=[rI9 3 v' ((rvL nb yy (rtsL nb nb.ss.length).length))]) (vf 8) (pf 8):=hR 8 (by decide)
 obtain⟨v27,vE8⟩:∃x,vf 8=x:=⟨_,rfl⟩
 obtain⟨p28,pE8⟩:∃x,pf 8=x:=⟨_,rfl⟩
 have R29:=e8
 rw[vE8,pE8] at R29
 subst R29
 refine Or.inl ⟨dT (congrArg some e2.1) A,?_⟩
 exact bU (sk 70 (congrArg some vE5) (sk 73 (congrArg some vE8) (aB _))) (by simp only[pE5,vE5,pE8,vE8,e2.2,fS]<;>rfl) (cD (aJ A A (fun w hm=>aY (jZ (rvL na yy (rtsL na na.ss.length).length) (rvL nb yy (rtsL nb nb.ss.length).length) _ _ w ((aG 0 A) w hm) ((aG 1 A) w hm)))) (fun _ _ h=>⟨h.1.trans (congrArg Value.bool hb30),h.2⟩))
 intro vf pf hR
 have e2:=hR 2 (by decide)
 have e9:=hR 9 (by decide)
 refine Or.inl ⟨dT (congrArg some e2.1) A,?_⟩
 exact bH (sk 74 (congrArg some e9.1) (aB _)) (aT (aK A))
 intro vf pf hR
 have e2:=hR 2 (by decide)
 have e10:=hR 10 (by decide)
 exact fX A (sk 67 (congrArg some e2.1) (sk 75 (congrArg some e10.1) (aB _))) (aT (aK A))
 intro vf pf hR
 have e11:=hR 11 (by decide)
 exact fX A (sk 76 (congrArg some e11.1) (aB _)) (aT (aK A))
 intro vf pf hR
 have e12:=hR 12 (by decide)
 refine Or.inl ⟨dT (congrArg some e12.1) A,?_⟩
 exact aW (aI [3] A) (List.sublist_append_right _ _) (aT (aF (cs:=[jI na.ins,na.sv,na.av,na.ov]) A A A A A (aD 4 A 0 A)))
 intro vf pf hR
 have e12:=hR 12 (by decide)
 refine Or.inl ⟨dT (congrArg some e12.1) A,?_⟩
 exact bH (aI [8] A) (aT (aK A))
 intro vf pf hR
 have e12:=hR 12 (by decide)
 have e13:=hR 13 (by decide)
 have e14:=hR 14 (by decide)
 refine Or.inl ⟨dT (congrArg some e12.1) A,?_⟩
 exact aW (sk 78 (congrArg some e13.1) (sk 79 (congrArg some e14.1) (aB _))) (List.sublist_append_right _ _) (aJ A A (fun w hm=>iL na yy w (hpd w (hm.holds _ (bX (i:=5) A))).1 hna (by omega)))
 intro vf pf hR
 have e12:=hR 12 (by decide)
 refine Or.inl ⟨dT (congrArg some e12.1) A,?_⟩
 exact aW (aI [4] A) (List.sublist_append_right _ _) (aT (aF (cs:=[jI nb.ins,nb.sv,nb.av,nb.ov]) A A A A A (aD 3 A 0 A)))
 intro vf pf hR
 have e12:=hR 12 (by decide)
 refine Or.inl ⟨dT (congrArg some e12.1) A,?_⟩
 exact bH (aI [8] A) (aT (aK A))
 intro vf pf hR
 have e12:=hR 12 (by decide)
 have e16:=hR 16 (by decide)
 have e17:=hR 17 (by decide)
 refine Or.inl ⟨dT (congrArg some e12.1) A,?_⟩
 exact aW (sk 81 (congrArg some e16.1) (sk 82 (congrArg some e17.1) (aB _))) (List.sublist_append_right _ _) (aJ A A (fun w hm=>iL nb yy w (hpd w (hm.holds _ (bX (i:=5) A))).2 hok (by omega)))
 intro vf pf hR
 have e12:=hR 12 (by decide)
 have e15:(fun v' post=>post=[rI9 3 v' ((rvL na yy (rtsL na na.ss.length).length))]) (vf 15) (pf 15):=hR 15 (by decide)
 obtain⟨v31,vE15⟩:∃x,vf 15=x:=⟨_,rfl⟩
 obtain⟨p32,pE15⟩:∃x,pf 15=x:=⟨_,rfl⟩
 have R33:=e15
 rw[vE15,pE15] at R33
 subst R33
 have e18:(fun v' post=>post=[rI9 3 v' ((rvL nb yy (rtsL nb nb.ss.length).length))]) (vf 18) (pf 18):=hR 18 (by decide)
 obtain⟨v34,vE18⟩:∃x,vf 18=x:=⟨_,rfl⟩
 obtain⟨p35,pE18⟩:∃x,pf 18=x:=⟨_,rfl⟩
 have R36:=e18
 rw[vE18,pE18] at R36
 subst R36
 refine Or.inl ⟨dT (congrArg some e12.1) A,?_⟩
 exact bU (sk 80 (congrArg some vE15) (sk 83 (congrArg some vE18) (aB _))) (by simp only[pE15,vE15,pE18,vE18,e12.2,fS]<;>rfl) (cD (aJ A A (fun w hm=>aY (jZ (rvL na yy (rtsL na na.ss.length).length) (rvL nb yy (rtsL nb nb.ss.length).length) _ _ w ((aG 0 A) w hm) ((aG 1 A) w hm)))) (fun _ _ h=>⟨h.1.trans (congrArg Value.bool hb37),h.2⟩))
 intro vf pf hR
 have e12:=hR 12 (by decide)
 have e19:=hR 19 (by decide)
 refine Or.inl ⟨dT (congrArg some e12.1) A,?_⟩
 exact bH (sk 84 (congrArg some e19.1) (aB _)) (aT (aK A))
 intro vf pf hR
 have e12:=hR 12 (by decide)
 have e20:=hR 20 (by decide)
 exact fX A (sk 77 (congrArg some e12.1) (sk 85 (congrArg some e20.1) (aB _))) (aT (aK A))
 intro vf pf hR
 have e5:(fun v' post=>post=[rI9 3 v' ((rvL na yy (rtsL na na.ss.length).length))]) (vf 5) (pf 5):=hR 5 (by decide)
 obtain⟨v24,vE5⟩:∃x,vf 5=x:=⟨_,rfl⟩
 obtain⟨p25,pE5⟩:∃x,pf 5=x:=⟨_,rfl⟩
 have R26:=e5
 rw[vE5,pE5] at R26
 subst R26
 have e8:(fun v' post=>post=[rI9 3 v' ((rvL nb yy (rtsL nb nb.ss.length).length))]) (vf 8) (pf 8):=hR 8 (by decide)
 obtain⟨v27,vE8⟩:∃x,vf 8=x:=⟨_,rfl⟩
 obtain⟨p28,pE8⟩:∃x,pf 8=x:=⟨_,rfl⟩
 have R29:=e8
 rw[vE8,pE8] at R29
 subst R29
 have e15:(fun v' post=>post=[rI9 3 v' ((rvL na yy (rtsL na na.ss.length).length))]) (vf 15) (pf 15):=hR 15 (by decide)
 obtain⟨v31,vE15⟩:∃x,vf 15=x:=⟨_,rfl⟩
 obtain⟨p32,pE15⟩:∃x,pf 15=x:=⟨_,rfl⟩
 have R33:=e15
 rw[vE15,pE15] at R33
 subst R33
 have e18:(fun v' post=>post=[rI9 3 v' ((rvL nb yy (rtsL nb nb.ss.length).length))]) (vf 18) (pf 18):=hR 18 (by decide)
 obtain⟨v34,vE18⟩:∃x,vf 18=x:=⟨_,rfl⟩
 obtain⟨p35,pE18⟩:∃x,pf 18=x:=⟨_,rfl⟩
 have R36:=e18
 rw[vE18,pE18] at R36
 subst R36
 have e21:=hR 21 (by decide)
 have q0:=hR 0 (by decide)
 have q1:=hR 1 (by decide)
 have q2:=hR 2 (by decide)
 have q3:=hR 3 (by decide)
 have q4:=hR 4 (by decide)
 have q6:=hR 6 (by decide)
 have q7:=hR 7 (by decide)
 have q9:=hR 9 (by decide)
 have q10:=hR 10 (by decide)
 have q11:=hR 11 (by decide)
 have q12:=hR 12 (by decide)
 have q13:=hR 13 (by decide)
 have q14:=hR 14 (by decide)
 have q16:=hR 16 (by decide)
 have q17:=hR 17 (by decide)
 have q19:=hR 19 (by decide)
 have q20:=hR 20 (by decide)
 have q21:=hR 21 (by decide)
 refine cE (bO [45,32,12,9,8,7,6,4,3,2,0] _ (sk 86 (congrArg some e21.1) (aB _)) A) (by simp only[pE5,vE5,pE8,vE8,pE15,vE15,pE18,vE18,q0.2,q1.2,q2.2,q3.2,q4.2,q6.2,q7.2,q9.2,q10.2,q11.2,q12.2,q13.2,q14.2,q16.2,q17.2,q19.2,q20.2,q21.2,fS]<;>rfl) ?_
 simp only[List.drop_succ_cons,List.drop_zero]
 refine aU 1 A ?_
 exact aV (cA A A A)
 have hnone:=Option.isNone_iff_eq_none.1 (by simpa using h14)
 have hcd:=Gg hceq hnone
 have hll:=Fb na 0
 refine aU 1 A (aR A (aC ?_))
 have hb38:(cd==0)=true:=beq_iff_eq.2 (by omega)
 have hb45:(((rvL na 0 (rtsL na na.ss.length).length).length:Int)==((rtsL na na.ss.length).length:Int))=true:=beq_iff_eq.2 (by omega)
 refine eV A 11 [0,1,2,3,4,5,6,7,8,9,10] (List.take 11 _) (List.drop 11 _) [[],[0],[1],[2],[2,3],[2,4],[2],[2,6],[2,7],[2,4,5,7,8],[2,9]] [33,34,35,36,37,38,39,40,41,42,43] (fun i_ vs_ v_ p_=>match i_ with|0=>v_=jI cd∧p_=[]|1=>v_=.bool true∧p_=[]|2=>v_=.bool true∧p_=[]|3=>v_=.agg #[jI na.ins,na.sv,na.av,na.ov]∧p_=[]|4=>(fun v' post=>post=[rI9 3 v' ((rvL na 0 (rtsL na na.ss.length).length))]) v_ p_|5=>v_=jI ((rvL na 0 (rtsL na na.ss.length).length).length:Int)∧p_=[]|6=>v_=.agg #[jI na.ins,na.sv,na.av,na.ov]∧p_=[]|7=>(fun v' post=>post=[rI9 3 v' (rtsL na na.ss.length)]) v_ p_|8=>v_=jI ((rtsL na na.ss.length).length:Int)∧p_=[]|9=>v_=.bool true∧p_=[]|10=>v_=.bool true∧p_=[]|_=>True) (List.take_append_drop 11 _).symm (by kernel_rfl) (by kernel_rfl) A A ?_ ?_
 refine⟨?_,?_,?_,?_,?_,?_,?_,?_,?_,?_,?_,trivial⟩
 intro vf pf hR
 exact fX A (aI [7] A) (aT (aK A))
 intro vf pf hR
 have e0:=hR 0 (by decide)
 exact fX A (sk 33 (congrArg some e0.1) (aB _)) (cD (aT (dC A A A A)) (fun _ _ h=>⟨h.1.trans (congrArg Value.bool hb38),h.2⟩))
 intro vf pf hR
 have e1:=hR 1 (by decide)
 exact fX A (sk 34 (congrArg some e1.1) (aB _)) (aT (aK A))
 intro vf pf hR
 have e2:=hR 2 (by decide)
 refine Or.inl ⟨dT (congrArg some e2.1) A,?_⟩
 exact aW (aI [3] A) (List.sublist_append_right _ _) (aT (aF (cs:=[jI na.ins,na.sv,na.av,na.ov]) A A A A A (aD 4 A 0 A)))
 intro vf pf hR
 have e2:=hR 2 (by decide)
 have e3:=hR 3 (by decide)
 refine Or.inl ⟨dT (congrArg some e2.1) A,?_⟩
 exact aW (sk 36 (congrArg some e3.1) (aB _)) (List.sublist_append_right _ _) (aJ A A (fun w hm=>kD na 0 w (hpd w (hm.holds _ (bX (i:=5) A))).1 hna (by omega)))
 intro vf pf hR
 have e2:=hR 2 (by decide)
 have e4:(fun v' post=>post=[rI9 3 v' ((rvL na 0 (rtsL na na.ss.length).length))]) (vf 4) (pf 4):=hR 4 (by decide)
 obtain⟨v39,vE4⟩:∃x,vf 4=x:=⟨_,rfl⟩
 obtain⟨p40,pE4⟩:∃x,pf 4=x:=⟨_,rfl⟩
 have R41:=e4
 rw[vE4,pE4] at R41
 subst R41
 refine Or.inl ⟨dT (congrArg some e2.1) A,?_⟩
 exact bU (sk 37 (congrArg some vE4) (aB _)) (by simp only[pE4,vE4,e2.2,fS]<;>rfl) (aT (bC A Tryz.underlying26 A (aG 0 A)))
 intro vf pf hR
 have e2:=hR 2 (by decide)
 refine Or.inl ⟨dT (congrArg some e2.1) A,?_⟩
 exact aW (aI [3] A) (List.sublist_append_right _ _) (aT (aF (cs:=[jI na.ins,na.sv,na.av,na.ov]) A A A A A (aD 4 A 0 A)))
 intro vf pf hR
 have e2:=hR 2 (by decide)
 have e6:=hR 6 (by decide)
 refine Or.inl ⟨dT (congrArg some e2.1) A,?_⟩
 exact aW (sk 39 (congrArg some e6.1) (aB _)) (List.sublist_append_right _ _) (aJ A A (fun w hm=>Cg na w (hpd w (hm.holds _ (bX (i:=5) A))).1 hna))
 intro vf pf hR
 have e2:=hR 2 (by decide)
 have e7:(fun v' post=>post=[rI9 3 v' (rtsL na na.ss.length)]) (vf 7) (pf 7):=hR 7 (by decide)
 obtain⟨v42,vE7⟩:∃x,vf 7=x:=⟨_,rfl⟩
 obtain⟨p43,pE7⟩:∃x,pf 7=x:=⟨_,rfl⟩
 have R44:=e7
 rw[vE7,pE7] at R44
 subst R44
 refine Or.inl ⟨dT (congrArg some e2.1) A,?_⟩
 exact bU (sk 40 (congrArg some vE7) (aB _)) (by simp only[pE7,vE7,e2.2,fS]<;>rfl) (aT (bC A Tryz.underlying26 A (aG 0 A)))
 intro vf pf hR
 have e2:=hR 2 (by decide)
 have e4:(fun v' post=>post=[rI9 3 v' ((rvL na 0 (rtsL na na.ss.length).length))]) (vf 4) (pf 4):=hR 4 (by decide)
 obtain⟨v39,vE4⟩:∃x,vf 4=x:=⟨_,rfl⟩
 obtain⟨p40,pE4⟩:∃x,pf 4=x:=⟨_,rfl⟩
 have R41:=e4
 rw[vE4,pE4] at R41
 subst R41
 have e5:=hR 5 (by decide)
 have e7:(fun v' post=>post=[rI9 3 v' (rtsL na na.ss.length)]) (vf 7) (pf 7):=hR 7 (by decide)
 obtain⟨v42,vE7⟩:∃x,vf 7=x:=⟨_,rfl⟩
 obtain⟨p43,pE7⟩:∃x,pf 7=x:=⟨_,rfl⟩
 have R44:=e7
 rw[vE7,pE7] at R44
 subst R44
 have e8:=hR 8 (by decide)
 refine Or.inl ⟨dT (congrArg some e2.1) A,?_⟩
 exact bU (sk 38 (congrArg some e5.1) (sk 41 (congrArg some e8.1) (aB _))) (by simp only[pE4,vE4,pE7,vE7,e2.2,e5.2,e8.2,fS]<;>rfl) (cD (aT (dC A A A A)) (fun _ _ h=>⟨h.1.trans (congrArg Value.bool hb45),h.2⟩))
 intro vf pf hR
 have e2:=hR 2 (by decide)
 have e9:=hR 9 (by decide)
 exact fX A (sk 35 (congrArg some e2.1) (sk 42 (congrArg some e9.1) (aB _))) (aT (aK A))
 intro vf pf hR
 have e4:(fun v' post=>post=[rI9 3 v' ((rvL na 0 (rtsL na na.ss.length).length))]) (vf 4) (pf 4):=hR 4 (by decide)
 obtain⟨v39,vE4⟩:∃x,vf 4=x:=⟨_,rfl⟩
 obtain⟨p40,pE4⟩:∃x,pf 4=x:=⟨_,rfl⟩
 have R41:=e4
 rw[vE4,pE4] at R41
 subst R41
 have e7:(fun v' post=>post=[rI9 3 v' (rtsL na na.ss.length)]) (vf 7) (pf 7):=hR 7 (by decide)
 obtain⟨v42,vE7⟩:∃x,vf 7=x:=⟨_,rfl⟩
 obtain⟨p43,pE7⟩:∃x,pf 7=x:=⟨_,rfl⟩
 have R44:=e7
 rw[vE7,pE7] at R44
 subst R44
 have e10:=hR 10 (by decide)
 have q0:=hR 0 (by decide)
 have q1:=hR 1 (by decide)
 have q2:=hR 2 (by decide)
 have q3:=hR 3 (by decide)
 have q5:=hR 5 (by decide)
 have q6:=hR 6 (by decide)
 have q8:=hR 8 (by decide)
 have q9:=hR 9 (by decide)
 have q10:=hR 10 (by decide)
 refine cE (bO [32,12,9,8,7,6,4,3,2,0] _ (sk 43 (congrArg some e10.1) (aB _)) A) (by simp only[pE4,vE4,pE7,vE7,q0.2,q1.2,q2.2,q3.2,q5.2,q6.2,q8.2,q9.2,q10.2,fS]<;>rfl) ?_
 simp only[List.drop_succ_cons,List.drop_zero]
 refine aU 1 A ?_
 refine aV (aL ?_)
 exact cA A A A
end Go.Proofs.YthmbefiklpoghaaGreat
